/- ThirtyAgree: where both days are from the 1st to the 30th, and neither is in February, all three ways agree; to the same day is 0: proved. For every input, where the table of months' lengths lies as the program's text lays it (the card ties that). Conditions: none. -/
import Derived.Test.YtjcjchapfiokeaaDoorCards
import Derived.Test.YtjcjchapfiokeaaDoorTie
import Derived.WalkKit
import Derived.ProofKit
import Derived.OpenShut
import Derived.Deep.DeepHandedRow
import Derived.Lib.LaidTab
import Derived.Lib.SmallJoins
import Derived.ChangeMaps5
import Derived.SevenTiedAt
import Derived.Test.YtjcjchapfiokeaaDoorFrame
import Derived.Test.YtjcjchapfiokeaaDoorLawTAgree
namespace Go.Proofs.YtjcjchapfiokeaaDoor.thirtyAgree
open Go.ChangeShapes Go.WideShapes Go.ChangeAt Go.RowKit
set_option linter.unusedVariables false

theorem own : ownKnob Tryd.prog.godebug = none := by kernel_rfl

set_option maxRecDepth 100000 in
theorem contract (H : Type) (enc : TypeId × Value → H) (W : World) (base : Nat) (args : Array Value) (ds gs : List (DataW H)) (before : List MemPlace)
    (hval : ∀ (j : Nat) t v, Tryd.f12.params[j]? = some t → args[j]? = some v → Value.okWide Tryd.prog W .any base t v)
    (hW : DataW.Whole enc Tryd.prog Tryd.f12.params.toList Rows.thirtyAgreeSpec.vars false W args.toList ds gs before) (hL : laidMetH Tryd.prog Rows.thirtyAgreeRow.laid W) :
    Calls Tryd.prog 12 args W fun e W' => ∃ v, e = .returned v ∧ Rows.thirtyAgreeSpec.post enc Tryd.prog Tryd.f12 false true false false W args v W' := by
  have hW' := hW
  obtain ⟨p, q, hA0, hV, rfl, hfz, hnd⟩ := hW
  have hA : DataW.TrodAll enc Tryd.prog W 0 (fun _ => true) true Tryd.f12.params.toList args.toList ds p := hA0
  have hAk := hA
  have hlt : ∀ x ∈ p, x.block < W.heap.size := fun x hx => hW'.lt x (List.mem_append.2 (Or.inl hx))
  rw [Tryd.params12] at hA hval
  obtain ⟨v0, vs0, d0, ds0, p0, q0, hargs, rfl, rfl, h0, r0⟩ := trodAll_cons hA
  obtain ⟨rfl, rfl, rfl⟩ := trodAll_nil r0
  obtain rfl : args = #[v0] := by cases args; simp_all
  obtain ⟨rfl, rfl⟩ := trodVars_none hV
  have hLaid : Laid W := laid_of hL
  obtain ⟨x0_0, x0_1, x0_2, x0_3, e0_0, e0_1, e0_2, e0_3, n0, rfl, rfl, rfl, s0_0, s0_1, s0_2, s0_3⟩ := Joins.open_agg4 Tryd.underlying71 (by kernel_rfl) (show Tryd.prog.cellsOf 71 = 4 by kernel_rfl) (hval 0 71 v0 rfl rfl) h0
  obtain ⟨a0, q0_0a, q0_0b, wa0⟩ := DataW.trod_int Tryd.underlying3 s0_0
  simp only [List.cons.injEq, and_true] at q0_0a; subst q0_0a
  obtain ⟨b0, q0_1a, q0_1b, wb0⟩ := DataW.trod_int Tryd.underlying3 s0_1
  simp only [List.cons.injEq, and_true] at q0_1a; subst q0_1a
  obtain ⟨c0, q0_2a, q0_2b⟩ := DataW.trod_bool Tryd.underlying4 s0_2
  simp only [List.cons.injEq, and_true] at q0_2a; subst q0_2a
  obtain ⟨d0, q0_3a, q0_3b, wd0⟩ := DataW.trod_int Tryd.underlying3 s0_3
  simp only [List.cons.injEq, and_true] at q0_3a; subst q0_3a
  clear hA0
  simp only [List.append_nil] at hW'
  refine (thirtyAgree_walk a0 b0 d0 c0 W hLaid).mono fun e W' ⟨he, hb⟩ => ?_
  subst he
  exact ⟨_, rfl, post_of_below (pa := _) (pv := []) hW' (fun _ _ _ => trodAll_cons_mk (shut_bool Tryd.underlying4 _) trodAll_mk0)
    (fun sp hsp => args_again (by kernel_rfl) (by kernel_rfl) hAk hb hlt sp (fun x hx => hsp x (by first | (simp at hx; done) | simpa using hx))) (fun _ _ => rfl) (by simp) hb (ok_one (by kernel_rfl) rfl (okWide_bool_mk Tryd.underlying4 _))⟩

noncomputable def laidWorld (os : Os) : World := laidW os
theorem laid_met (os : Os) : laidMet Tryd.prog Rows.thirtyAgreeRow.laid ((laidW os).forCall (fun _ _ => 0) ⟨#[], #[.agg #[.int .i64 0, .int .i64 0, .bool false, .int .i64 0]], []⟩).memory :=
  laidMet_of_run' 8 (by kernel_rfl) (by kernel_rfl)
theorem reads (os : Os) {H : Type} (enc : TypeId × Value → H) : ∃ places, DataW.whole enc Tryd.prog ((laidW os).forCall (fun _ _ => 0) ⟨#[], #[.agg #[.int .i64 0, .int .i64 0, .bool false, .int .i64 0]], []⟩).memory Tryd.f12.params.toList Rows.thirtyAgreeSpec.vars false (#[.agg #[.int .i64 0, .int .i64 0, .bool false, .int .i64 0]] : Array Value).toList 8 = some ([.agg [.lit (.int .i64 0), .lit (.int .i64 0), .lit (.bool false), .lit (.int .i64 0)]], [], places) :=
  ⟨[], by kernel_rfl⟩
set_option maxRecDepth 100000 in
theorem lifted (os : Os) (started : os.Started) (H : Type) (enc : TypeId × Value → H) (F : Stop.Interp) :
    ReturnsInHanded {} Tryd.checked os 12 .any ((OpenSpec.ofChange Rows.thirtyAgreeSpec).preRow enc Tryd.prog Tryd.f12 Rows.thirtyAgreeRow.domain false Rows.thirtyAgreeRow.laid) (((OpenSpec.ofChange Rows.thirtyAgreeSpec).at F).post enc Tryd.prog Tryd.f12 false true false false) := by
  obtain ⟨places, hx⟩ := reads os enc
  refine returnsInHanded_of_row (C := Tryd.checked) (s := OpenSpec.ofChange Rows.thirtyAgreeSpec) own started (by kernel_rfl) Tryd.func12
    (witness_row_at (enc := enc) (C := Tryd.checked) false (laidW os) #[.agg #[.int .i64 0, .int .i64 0, .bool false, .int .i64 0]] rfl (by kernel_rfl) (by kernel_rfl) (by kernel_rfl)
      (OpenSpec.preRow_of_cond 8 hx (by kernel_rfl) (fun k hk => by cases hk) (by kernel_rfl) (laid_met os))) ?_
  intro W base args ds gs before hval hW _ _ _ hL _ _
  exact contract H enc W base args ds gs before hval hW hL
theorem said : Rows.ThirtyAgreeSaid :=
  OpenClaim.holds_of_cond 12 Tryd.f12 rfl rfl rfl rfl rfl rfl rfl ⟨rfl, rfl, rfl, rfl, rfl⟩ rfl rfl rfl rfl rfl (by kernel_rfl) Tryd.func12 (by kernel_rfl)
    (of_decide_eq_true (by kernel_rfl)) (by unfold Func.isWrapper; first | (rw [if_pos (by decide +kernel)]; kernel_rfl) | (rw [if_neg (by decide +kernel)]; exact ⟨rfl, rfl⟩))
    (fun os started H enc _ F => by rw [OpenClaim.pre_eq_preRow]; exact lifted os started H enc F)
theorem plain (f : FuncId) (fn : Func) (hf : Tryd.pinned.checked.prog.funcNamed "demurrage/demurragelaw07.ThirtyAgree" = some f) (hfn : Tryd.pinned.checked.prog.funcs[f]? = some fn) :
    false = Tryd.pinned.checked.prog.looks [] ∧ ∀ (j : Nat) t, fn.params[j]? = some t → Tryd.pinned.checked.prog.wantsStandIn t = false := by
  obtain rfl : f = 12 := Option.some.inj ((show Tryd.prog.funcNamed "demurrage/demurragelaw07.ThirtyAgree" = some 12 by kernel_rfl).symm.trans hf) |>.symm
  obtain rfl : fn = Tryd.f12 := (Option.some.inj (Tryd.func12.symm.trans hfn)).symm
  refine ⟨by kernel_rfl, fun j t ht => ?_⟩
  have hm : t ∈ Tryd.f12.params := Array.mem_of_getElem? ht
  rw [Tryd.params12] at hm
  have hall : (Tryd.f12.params.all fun u => !Tryd.prog.wantsStandIn u) = true := by kernel_rfl
  rw [Tryd.params12] at hall
  have := Array.all_eq_true_iff_forall_mem.1 hall t hm
  exact (show Tryd.prog.wantsStandIn t = false by simpa using this)
/-- THE CARD -/
theorem card : Rows.ThirtyAgreeCardSaid :=
  Claim7.holds_tied_plain_at .later [] _ _ _ _ said (fun _ h => by cases h) (by kernel_rfl) (fun _ h => by cases h) thirtyAgree_row_tie rfl ⟨rfl, rfl⟩ (by kernel_rfl) rfl plain (by kernel_rfl)
#print axioms card
end Go.Proofs.YtjcjchapfiokeaaDoor.thirtyAgree
