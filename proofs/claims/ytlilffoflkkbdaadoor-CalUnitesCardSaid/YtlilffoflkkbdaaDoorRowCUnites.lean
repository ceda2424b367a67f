/- CalUnites: unions, and how many days of business there are, are as the document says: proved. For every input, where the table of months' lengths lies as the program's text lays it (the card ties that). Conditions: none. -/
import Derived.Test.YtlilffoflkkbdaaDoorCards
import Derived.Test.YtlilffoflkkbdaaDoorTie
import Derived.WalkKit
import Derived.ProofKit
import Derived.OpenShut
import Derived.Deep.DeepHandedRow
import Derived.Lib.LaidTab
import Derived.Lib.SmallJoins
import Derived.ChangeMaps5
import Derived.SevenTiedAt
import Derived.Test.YtlilffoflkkbdaaDoorFrame
import Derived.Test.YtlilffoflkkbdaaDoorLawCUnites
import Derived.Test.YtlilffoflkkbdaaDoorOpenC
import Derived.Test.YtlilffoflkkbdaaDoorOpenM
import Derived.Test.YtlilffoflkkbdaaDoorLaid5
namespace Go.Proofs.YtlilffoflkkbdaaDoor.calUnites
open Go.ChangeShapes Go.WideShapes Go.ChangeAt Go.RowKit
set_option linter.unusedVariables false

theorem own : ownKnob Tryd.prog.godebug = none := by kernel_rfl

set_option maxRecDepth 100000 in
theorem contract (H : Type) (enc : TypeId × Value → H) (W : World) (base : Nat) (args : Array Value) (ds gs : List (DataW H)) (before : List MemPlace)
    (hval : ∀ (j : Nat) t v, Tryd.f10.params[j]? = some t → args[j]? = some v → Value.okWide Tryd.prog W .any base t v)
    (hW : DataW.Whole enc Tryd.prog Tryd.f10.params.toList Rows.calUnitesSpec.vars false W args.toList ds gs before) (hL : laidMetH Tryd.prog Rows.calUnitesRow.laid W) :
    Calls Tryd.prog 10 args W fun e W' => ∃ v, e = .returned v ∧ Rows.calUnitesSpec.post enc Tryd.prog Tryd.f10 false true false false W args v W' := by
  have hW' := hW
  obtain ⟨p, q, hA0, hV, rfl, hfz, hnd⟩ := hW
  have hA : DataW.TrodAll enc Tryd.prog W 0 (fun _ => true) true Tryd.f10.params.toList args.toList ds p := hA0
  have hAk := hA
  have hlt : ∀ x ∈ p, x.block < W.heap.size := fun x hx => hW'.lt x (List.mem_append.2 (Or.inl hx))
  rw [Tryd.params10] at hA hval
  obtain ⟨v0, vs0, d0, ds0, p0, q0, hargs, rfl, rfl, h0, r0⟩ := trodAll_cons hA
  obtain ⟨rfl, rfl, rfl⟩ := trodAll_nil r0
  obtain rfl : args = #[v0] := by cases args; simp_all
  obtain ⟨rfl, rfl⟩ := trodVars_none hV
  have hLM : laidMet Tryd.prog [("demurrage/civil.lengths", Rows.laid_demurrage_civil_lengths), ("demurrage/cal.none", Rows.laid_demurrage_cal_none)] W := hL
  have hLaid : Laid W := laid_head hLM
  have hAllOff : AllOff W := allOff_of hLM
  obtain ⟨x0_0, x0_1, x0_2, x0_3, x0_4, x0_5, x0_6, x0_7, x0_8, x0_9, x0_10, x0_11, x0_12, x0_13, x0_14, x0_15, x0_16, x0_17, x0_18, x0_19, e0_0, e0_1, e0_2, e0_3, n0, rfl, rfl, rfl, s0_0, s0_1, s0_2, s0_3⟩ := open_aggM99 Tryd.underlying55 rfl (by kernel_rfl) rfl (by kernel_rfl) rfl (by kernel_rfl) rfl (by kernel_rfl) (show Tryd.prog.cellsOf 55 = 20 by kernel_rfl) (hval 0 55 v0 rfl rfl) h0
  obtain ⟨c0_0, hcs0_0, hin0_0⟩ := cal_cells s0_0
  simp only [List.cons.injEq, and_true] at hcs0_0; obtain ⟨rfl, rfl, rfl, rfl, rfl, rfl, rfl, rfl, rfl⟩ := hcs0_0
  obtain ⟨c0_1, hcs0_1, hin0_1⟩ := cal_cells s0_1
  simp only [List.cons.injEq, and_true] at hcs0_1; obtain ⟨rfl, rfl, rfl, rfl, rfl, rfl, rfl, rfl, rfl⟩ := hcs0_1
  obtain ⟨n0_2, hcs0_2, q0_2, wn0_2⟩ := DataW.trod_int Tryd.underlying3 s0_2
  simp only [List.cons.injEq, and_true] at hcs0_2; subst hcs0_2
  obtain ⟨n0_3, hcs0_3, q0_3, wn0_3⟩ := DataW.trod_int Tryd.underlying3 s0_3
  simp only [List.cons.injEq, and_true] at hcs0_3; subst hcs0_3
  clear hA0
  simp only [List.append_nil] at hW'
  refine (calUnites_walk c0_0 c0_1 n0_2 n0_3 W hLaid hAllOff hin0_0 hin0_1).mono fun e W' ⟨he, hb⟩ => ?_
  subst he
  exact ⟨_, rfl, post_of_below (pa := _) (pv := []) hW' (fun _ _ _ => trodAll_cons_mk (shut_bool Tryd.underlying4 _) trodAll_mk0)
    (fun sp hsp => args_again (by kernel_rfl) (by kernel_rfl) hAk hb hlt sp (fun x hx => hsp x (by first | (simp at hx; done) | simpa using hx))) (fun _ _ => rfl) (by simp) hb (ok_one (by kernel_rfl) rfl (okWide_bool_mk Tryd.underlying4 _))⟩

noncomputable def laidWorld (os : Os) : World := laidWO os
theorem laid_met (os : Os) : laidMet Tryd.prog Rows.calUnitesRow.laid ((laidWO os).forCall (fun _ _ => 0) ⟨#[], #[.agg #[.bool false, .bool false, .bool false, .bool false, .bool false, .bool false, .bool false, .slice none 0 0, .slice none 0 0, .bool false, .bool false, .bool false, .bool false, .bool false, .bool false, .bool false, .slice none 0 0, .slice none 0 0, .int .i64 0, .int .i64 0]], []⟩).memory :=
  laidMet_of_run' 8 (by kernel_rfl) (by kernel_rfl)
theorem reads (os : Os) {H : Type} (enc : TypeId × Value → H) : ∃ places, DataW.whole enc Tryd.prog ((laidWO os).forCall (fun _ _ => 0) ⟨#[], #[.agg #[.bool false, .bool false, .bool false, .bool false, .bool false, .bool false, .bool false, .slice none 0 0, .slice none 0 0, .bool false, .bool false, .bool false, .bool false, .bool false, .bool false, .bool false, .slice none 0 0, .slice none 0 0, .int .i64 0, .int .i64 0]], []⟩).memory Tryd.f10.params.toList Rows.calUnitesSpec.vars false (#[.agg #[.bool false, .bool false, .bool false, .bool false, .bool false, .bool false, .bool false, .slice none 0 0, .slice none 0 0, .bool false, .bool false, .bool false, .bool false, .bool false, .bool false, .bool false, .slice none 0 0, .slice none 0 0, .int .i64 0, .int .i64 0]] : Array Value).toList 8 = some ([.agg [.agg [.agg [.lit (.bool false), .lit (.bool false), .lit (.bool false), .lit (.bool false), .lit (.bool false), .lit (.bool false), .lit (.bool false)], .nil, .nil], .agg [.agg [.lit (.bool false), .lit (.bool false), .lit (.bool false), .lit (.bool false), .lit (.bool false), .lit (.bool false), .lit (.bool false)], .nil, .nil], .lit (.int .i64 0), .lit (.int .i64 0)]], [], places) :=
  ⟨[], by kernel_rfl⟩
set_option maxRecDepth 100000 in
theorem lifted (os : Os) (started : os.Started) (H : Type) (enc : TypeId × Value → H) (F : Stop.Interp) :
    ReturnsInHanded {} Tryd.checked os 10 .any ((OpenSpec.ofChange Rows.calUnitesSpec).preRow enc Tryd.prog Tryd.f10 Rows.calUnitesRow.domain false Rows.calUnitesRow.laid) (((OpenSpec.ofChange Rows.calUnitesSpec).at F).post enc Tryd.prog Tryd.f10 false true false false) := by
  obtain ⟨places, hx⟩ := reads os enc
  refine returnsInHanded_of_row (C := Tryd.checked) (s := OpenSpec.ofChange Rows.calUnitesSpec) own started (by kernel_rfl) Tryd.func10
    (witness_row_at (enc := enc) (C := Tryd.checked) false (laidWO os) #[.agg #[.bool false, .bool false, .bool false, .bool false, .bool false, .bool false, .bool false, .slice none 0 0, .slice none 0 0, .bool false, .bool false, .bool false, .bool false, .bool false, .bool false, .bool false, .slice none 0 0, .slice none 0 0, .int .i64 0, .int .i64 0]] rfl (by kernel_rfl) (by kernel_rfl) (by kernel_rfl)
      (OpenSpec.preRow_of_cond 8 hx (by kernel_rfl) (fun k hk => by cases hk) (by kernel_rfl) (laid_met os))) ?_
  intro W base args ds gs before hval hW _ _ _ hL _ _
  exact contract H enc W base args ds gs before hval hW hL
theorem said : Rows.CalUnitesSaid :=
  OpenClaim.holds_of_cond 10 Tryd.f10 rfl rfl rfl rfl rfl rfl rfl ⟨rfl, rfl, rfl, rfl, rfl⟩ rfl rfl rfl rfl rfl (by kernel_rfl) Tryd.func10 (by kernel_rfl)
    (of_decide_eq_true (by kernel_rfl)) (by unfold Func.isWrapper; first | (rw [if_pos (by decide +kernel)]; kernel_rfl) | (rw [if_neg (by decide +kernel)]; exact ⟨rfl, rfl⟩))
    (fun os started H enc _ F => by rw [OpenClaim.pre_eq_preRow]; exact lifted os started H enc F)
theorem plain (f : FuncId) (fn : Func) (hf : Tryd.pinned.checked.prog.funcNamed "demurrage/demurragelaw13.CalUnites" = some f) (hfn : Tryd.pinned.checked.prog.funcs[f]? = some fn) :
    false = Tryd.pinned.checked.prog.looks [] ∧ ∀ (j : Nat) t, fn.params[j]? = some t → Tryd.pinned.checked.prog.wantsStandIn t = false := by
  obtain rfl : f = 10 := Option.some.inj ((show Tryd.prog.funcNamed "demurrage/demurragelaw13.CalUnites" = some 10 by kernel_rfl).symm.trans hf) |>.symm
  obtain rfl : fn = Tryd.f10 := (Option.some.inj (Tryd.func10.symm.trans hfn)).symm
  refine ⟨by kernel_rfl, fun j t ht => ?_⟩
  have hm : t ∈ Tryd.f10.params := Array.mem_of_getElem? ht
  rw [Tryd.params10] at hm
  have hall : (Tryd.f10.params.all fun u => !Tryd.prog.wantsStandIn u) = true := by kernel_rfl
  rw [Tryd.params10] at hall
  have := Array.all_eq_true_iff_forall_mem.1 hall t hm
  exact (show Tryd.prog.wantsStandIn t = false by simpa using this)
/-- THE CARD -/
theorem card : Rows.CalUnitesCardSaid :=
  Claim7.holds_tied_plain_at .later [] _ _ _ _ said (fun _ h => by cases h) (by kernel_rfl) (fun _ h => by cases h) calUnites_row_tie rfl ⟨rfl, rfl⟩ (by kernel_rfl) rfl plain (by kernel_rfl)
#print axioms card
end Go.Proofs.YtlilffoflkkbdaaDoor.calUnites
