/- RuleTells: which rules may be, their days of a year, shifted or not, and which days are theirs, are as the document says: proved. For every input, where the table of months' lengths lies as the program's text lays it (the card ties that). Conditions: none. -/
import Derived.Test.YtjcjchapfiokeaaDoorCards
import Derived.Test.YtjcjchapfiokeaaDoorTie
import Derived.WalkKit
import Derived.ProofKit
import Derived.OpenShut
import Derived.Deep.DeepHandedRow
import Derived.Lib.LaidTab
import Derived.Lib.SmallJoins
import Derived.ChangeMaps5
import Derived.SevenTiedAt
import Derived.Test.YtjcjchapfiokeaaDoorFrame
import Derived.Test.YtjcjchapfiokeaaDoorLawRTells
import Derived.Test.YtjcjchapfiokeaaDoorOpen8
namespace Go.Proofs.YtjcjchapfiokeaaDoor.ruleTells
open Go.ChangeShapes Go.WideShapes Go.ChangeAt Go.RowKit
set_option linter.unusedVariables false

theorem own : ownKnob Tryd.prog.godebug = none := by kernel_rfl

set_option maxRecDepth 100000 in
theorem contract (H : Type) (enc : TypeId × Value → H) (W : World) (base : Nat) (args : Array Value) (ds gs : List (DataW H)) (before : List MemPlace)
    (hval : ∀ (j : Nat) t v, Tryd.f3.params[j]? = some t → args[j]? = some v → Value.okWide Tryd.prog W .any base t v)
    (hW : DataW.Whole enc Tryd.prog Tryd.f3.params.toList Rows.ruleTellsSpec.vars false W args.toList ds gs before) (hL : laidMetH Tryd.prog Rows.ruleTellsRow.laid W) :
    Calls Tryd.prog 3 args W fun e W' => ∃ v, e = .returned v ∧ Rows.ruleTellsSpec.post enc Tryd.prog Tryd.f3 false true false false W args v W' := by
  have hW' := hW
  obtain ⟨p, q, hA0, hV, rfl, hfz, hnd⟩ := hW
  have hA : DataW.TrodAll enc Tryd.prog W 0 (fun _ => true) true Tryd.f3.params.toList args.toList ds p := hA0
  have hAk := hA
  have hlt : ∀ x ∈ p, x.block < W.heap.size := fun x hx => hW'.lt x (List.mem_append.2 (Or.inl hx))
  rw [Tryd.params3] at hA hval
  obtain ⟨v0, vs0, d0, ds0, p0, q0, hargs, rfl, rfl, h0, r0⟩ := trodAll_cons hA
  obtain ⟨v1, vs1, d1, ds1, p1, q1, hargs1, rfl, rfl, h1, r1⟩ := trodAll_cons r0
  subst hargs1
  obtain ⟨v2, vs2, d2, ds2, p2, q2, hargs2, rfl, rfl, h2, r2⟩ := trodAll_cons r1
  subst hargs2
  obtain ⟨rfl, rfl, rfl⟩ := trodAll_nil r2
  obtain rfl : args = #[v0, v1, v2] := by cases args; simp_all
  obtain ⟨rfl, rfl⟩ := trodVars_none hV
  have hLaid : Laid W := laid_of hL
  obtain ⟨x0_0, x0_1, x0_2, x0_3, x0_4, x0_5, x0_6, x0_7, e0_0, e0_1, e0_2, e0_3, e0_4, e0_5, e0_6, e0_7, n0, rfl, rfl, rfl, s0_0, s0_1, s0_2, s0_3, s0_4, s0_5, s0_6, s0_7⟩ := open_agg8 Tryd.underlying23 rfl (by kernel_rfl) rfl (by kernel_rfl) rfl (by kernel_rfl) rfl (by kernel_rfl) rfl (by kernel_rfl) rfl (by kernel_rfl) rfl (by kernel_rfl) rfl (by kernel_rfl) (show Tryd.prog.cellsOf 23 = 8 by kernel_rfl) (hval 0 23 v0 rfl rfl) h0
  obtain ⟨ra0, q0_0a, q0_0b, wra0⟩ := DataW.trod_int Tryd.underlying3 s0_0
  simp only [List.cons.injEq, and_true] at q0_0a; subst q0_0a
  obtain ⟨rb0, q0_1a, q0_1b, wrb0⟩ := DataW.trod_int Tryd.underlying3 s0_1
  simp only [List.cons.injEq, and_true] at q0_1a; subst q0_1a
  obtain ⟨rc0, q0_2a, q0_2b, wrc0⟩ := DataW.trod_int Tryd.underlying3 s0_2
  simp only [List.cons.injEq, and_true] at q0_2a; subst q0_2a
  obtain ⟨rd0, q0_3a, q0_3b, wrd0⟩ := DataW.trod_int Tryd.underlying3 s0_3
  simp only [List.cons.injEq, and_true] at q0_3a; subst q0_3a
  obtain ⟨re0, q0_4a, q0_4b, wre0⟩ := DataW.trod_int Tryd.underlying3 s0_4
  simp only [List.cons.injEq, and_true] at q0_4a; subst q0_4a
  obtain ⟨rf0, q0_5a, q0_5b, wrf0⟩ := DataW.trod_int Tryd.underlying3 s0_5
  simp only [List.cons.injEq, and_true] at q0_5a; subst q0_5a
  obtain ⟨rg0, q0_6a, q0_6b, wrg0⟩ := DataW.trod_int Tryd.underlying3 s0_6
  simp only [List.cons.injEq, and_true] at q0_6a; subst q0_6a
  obtain ⟨rh0, q0_7a, q0_7b, wrh0⟩ := DataW.trod_int Tryd.underlying3 s0_7
  simp only [List.cons.injEq, and_true] at q0_7a; subst q0_7a
  obtain ⟨a1, rfl, rfl, rfl, w1⟩ := open_int Tryd.underlying3 (hval 1 3 v1 rfl rfl) h1
  obtain ⟨a2, rfl, rfl, rfl, w2⟩ := open_int Tryd.underlying3 (hval 2 3 v2 rfl rfl) h2
  clear hA0
  simp only [List.append_nil] at hW'
  refine (ruleTells_walk ra0 rb0 rc0 rd0 re0 rf0 rg0 rh0 a1 a2 W hLaid).mono fun e W' ⟨he, hb⟩ => ?_
  subst he
  exact ⟨_, rfl, post_of_below (pa := _) (pv := []) hW' (fun _ _ _ => trodAll_cons_mk (shut_bool Tryd.underlying4 _) trodAll_mk0)
    (fun sp hsp => args_again (by kernel_rfl) (by kernel_rfl) hAk hb hlt sp (fun x hx => hsp x (by first | (simp at hx; done) | simpa using hx))) (fun _ _ => rfl) (by simp) hb (ok_one (by kernel_rfl) rfl (okWide_bool_mk Tryd.underlying4 _))⟩

noncomputable def laidWorld (os : Os) : World := laidW os
theorem laid_met (os : Os) : laidMet Tryd.prog Rows.ruleTellsRow.laid ((laidW os).forCall (fun _ _ => 0) ⟨#[], #[.agg #[.int .i64 0, .int .i64 0, .int .i64 0, .int .i64 0, .int .i64 0, .int .i64 0, .int .i64 0, .int .i64 0], .int .i64 0, .int .i64 0], []⟩).memory :=
  laidMet_of_run' 8 (by kernel_rfl) (by kernel_rfl)
theorem reads (os : Os) {H : Type} (enc : TypeId × Value → H) : ∃ places, DataW.whole enc Tryd.prog ((laidW os).forCall (fun _ _ => 0) ⟨#[], #[.agg #[.int .i64 0, .int .i64 0, .int .i64 0, .int .i64 0, .int .i64 0, .int .i64 0, .int .i64 0, .int .i64 0], .int .i64 0, .int .i64 0], []⟩).memory Tryd.f3.params.toList Rows.ruleTellsSpec.vars false (#[.agg #[.int .i64 0, .int .i64 0, .int .i64 0, .int .i64 0, .int .i64 0, .int .i64 0, .int .i64 0, .int .i64 0], .int .i64 0, .int .i64 0] : Array Value).toList 8 = some ([.agg [.lit (.int .i64 0), .lit (.int .i64 0), .lit (.int .i64 0), .lit (.int .i64 0), .lit (.int .i64 0), .lit (.int .i64 0), .lit (.int .i64 0), .lit (.int .i64 0)], .lit (.int .i64 0), .lit (.int .i64 0)], [], places) :=
  ⟨[], by kernel_rfl⟩
set_option maxRecDepth 100000 in
theorem lifted (os : Os) (started : os.Started) (H : Type) (enc : TypeId × Value → H) (F : Stop.Interp) :
    ReturnsInHanded {} Tryd.checked os 3 .any ((OpenSpec.ofChange Rows.ruleTellsSpec).preRow enc Tryd.prog Tryd.f3 Rows.ruleTellsRow.domain false Rows.ruleTellsRow.laid) (((OpenSpec.ofChange Rows.ruleTellsSpec).at F).post enc Tryd.prog Tryd.f3 false true false false) := by
  obtain ⟨places, hx⟩ := reads os enc
  refine returnsInHanded_of_row (C := Tryd.checked) (s := OpenSpec.ofChange Rows.ruleTellsSpec) own started (by kernel_rfl) Tryd.func3
    (witness_row_at (enc := enc) (C := Tryd.checked) false (laidW os) #[.agg #[.int .i64 0, .int .i64 0, .int .i64 0, .int .i64 0, .int .i64 0, .int .i64 0, .int .i64 0, .int .i64 0], .int .i64 0, .int .i64 0] rfl (by kernel_rfl) (by kernel_rfl) (by kernel_rfl)
      (OpenSpec.preRow_of_cond 8 hx (by kernel_rfl) (fun k hk => by cases hk) (by kernel_rfl) (laid_met os))) ?_
  intro W base args ds gs before hval hW _ _ _ hL _ _
  exact contract H enc W base args ds gs before hval hW hL
theorem said : Rows.RuleTellsSaid :=
  OpenClaim.holds_of_cond 3 Tryd.f3 rfl rfl rfl rfl rfl rfl rfl ⟨rfl, rfl, rfl, rfl, rfl⟩ rfl rfl rfl rfl rfl (by kernel_rfl) Tryd.func3 (by kernel_rfl)
    (of_decide_eq_true (by kernel_rfl)) (by unfold Func.isWrapper; first | (rw [if_pos (by decide +kernel)]; kernel_rfl) | (rw [if_neg (by decide +kernel)]; exact ⟨rfl, rfl⟩))
    (fun os started H enc _ F => by rw [OpenClaim.pre_eq_preRow]; exact lifted os started H enc F)
theorem plain (f : FuncId) (fn : Func) (hf : Tryd.pinned.checked.prog.funcNamed "demurrage/demurragelaw12.RuleTells" = some f) (hfn : Tryd.pinned.checked.prog.funcs[f]? = some fn) :
    false = Tryd.pinned.checked.prog.looks [] ∧ ∀ (j : Nat) t, fn.params[j]? = some t → Tryd.pinned.checked.prog.wantsStandIn t = false := by
  obtain rfl : f = 3 := Option.some.inj ((show Tryd.prog.funcNamed "demurrage/demurragelaw12.RuleTells" = some 3 by kernel_rfl).symm.trans hf) |>.symm
  obtain rfl : fn = Tryd.f3 := (Option.some.inj (Tryd.func3.symm.trans hfn)).symm
  refine ⟨by kernel_rfl, fun j t ht => ?_⟩
  have hm : t ∈ Tryd.f3.params := Array.mem_of_getElem? ht
  rw [Tryd.params3] at hm
  have hall : (Tryd.f3.params.all fun u => !Tryd.prog.wantsStandIn u) = true := by kernel_rfl
  rw [Tryd.params3] at hall
  have := Array.all_eq_true_iff_forall_mem.1 hall t hm
  exact (show Tryd.prog.wantsStandIn t = false by simpa using this)
/-- THE CARD -/
theorem card : Rows.RuleTellsCardSaid :=
  Claim7.holds_tied_plain_at .later [] _ _ _ _ said (fun _ h => by cases h) (by kernel_rfl) (fun _ h => by cases h) ruleTells_row_tie rfl ⟨rfl, rfl⟩ (by kernel_rfl) rfl plain (by kernel_rfl)
#print axioms card
end Go.Proofs.YtjcjchapfiokeaaDoor.ruleTells
