/- The contracts of the library's joining of two slices, of days and of rules. Conditions: sizes far below the machine's. -/
import Derived.Test.YtlilffoflkkbdaaDoorCat
namespace Go.Proofs.YtlilffoflkkbdaaDoor
open Go.RowKit
set_option linter.unusedVariables false
set_option maxRecDepth 100000 in
set_option maxHeartbeats 4000000 in
theorem catD_c (bl : Nat) (A B : Option Addr) (ca cb : Nat) (a b : List Int) (w : World) (hbl : bl < w.heap.size) (l0 : w.cell? ⟨bl, 0, none⟩ = some (.slice A a.length ca)) (l1 : w.cell? ⟨bl, 1, none⟩ = some (.slice B b.length cb))
    (ha : DIn w A a) (hb : DIn w B b) (na : a.length ≤ 1000000) (nb : b.length ≤ 1000000) :
    Calls Tryd.prog 79 #[.slice (some ⟨bl, 0, none⟩) 2 2] w fun e w' => ∃ v, e = .returned v ∧ w'.ownsRow w.heap.size 3 1 v (a.length + b.length) (ints a ++ ints b) ∧ Below w.heap.size w w' := by
  obtain ⟨i0, hi0, hz0, hs0, hb0⟩ := info_parts infoD
  have HA := Lib.hid ha; have HB := Lib.hid hb; clear ha hb
  have hB : Below w.heap.size w w := Below.refl _ _
  go_enter Tryd.func79, Tryd.ntmps79
  go_wp2_with fail
  refine wp_loop_rounds 3 ?_
  rw [rounds_succ]
  go_wp2_with fail
  rw [rounds_succ]
  go_wp2_with fail
  rw [rounds_succ]
  go_wp2_with fail
  refine (growD_c _ (a.length + b.length) (by simp) (by omega) _).mono ?_; rintro e w1 ⟨v, rfl, hown, hb1⟩
  have hz1 := hb1.size; obtain ⟨hc1, hf1⟩ := bcell hb1
  have hbase1 : w.heap.size ≤ w1.heap.size := hz1
  go_wp2_with fail
  refine wp_loop_rounds 3 ?_
  rw [rounds_succ]
  go_wp2_with (at_builtin; refine wpList_app_in rfl (.tmp 31) (.tmp 32) _ rfl w.heap.size 3 i0 _ 1 8 Tryd.underlying24 hi0 hz0 hs0 hb0 (by rfl) (by decide) v 0 [] rfl hown A a.length ca (ints a) rfl (HA.out.src.below hb1) (ints_one _) (by unfold maxLen; omega) (by omega) hbase1 ?_; intro v1 w2 hown1 hg1)
  have hB2 : Below w.heap.size w w2 := hb1.grown hg1 hbase1 (fun k hk => (hown.lt k hk).1)
  obtain ⟨hc2, hf2⟩ := bcell hB2; have hz2 := hB2.size
  rw [rounds_succ]
  go_wp2_with (at_builtin; refine wpList_app_in rfl (.tmp 31) (.tmp 32) _ rfl w.heap.size 3 i0 _ 1 8 Tryd.underlying24 hi0 hz0 hs0 hb0 (by rfl) (by decide) v1 (0 + a.length) ([] ++ ints a) rfl hown1 B b.length cb (ints b) rfl (HB.out.src.below hB2) (ints_one _) (by unfold maxLen; omega) (by omega) hz2 ?_; intro v2 w3 hown2 hg2)
  rw [rounds_succ]
  go_wp2_with fail
  go_ret
  exact ⟨_, rfl, by simpa using hown2, hB2.grown hg2 hz2 (fun k hk => (hown1.lt k hk).1)⟩
set_option maxRecDepth 100000 in
set_option maxHeartbeats 4000000 in
theorem catR_c (bl : Nat) (A B : Option Addr) (ca cb : Nat) (a b : List R8) (w : World) (hbl : bl < w.heap.size) (l0 : w.cell? ⟨bl, 0, none⟩ = some (.slice A a.length ca)) (l1 : w.cell? ⟨bl, 1, none⟩ = some (.slice B b.length cb))
    (ha : RIn w A a) (hb : RIn w B b) (na : a.length ≤ 1000000) (nb : b.length ≤ 1000000) :
    Calls Tryd.prog 64 #[.slice (some ⟨bl, 0, none⟩) 2 2] w fun e w' => ∃ v, e = .returned v ∧ w'.ownsRow w.heap.size 68 8 v (a.length + b.length) (a.flatMap R8.enc ++ b.flatMap R8.enc) ∧ Below w.heap.size w w' := by
  obtain ⟨i0, hi0, hz0, hs0, hb0⟩ := info_parts infoR
  have HA := Lib.hid ha; have HB := Lib.hid hb; clear ha hb
  have hB : Below w.heap.size w w := Below.refl _ _
  go_enter Tryd.func64, Tryd.ntmps64
  go_wp2_with fail
  refine wp_loop_rounds 3 ?_
  rw [rounds_succ]
  go_wp2_with fail
  rw [rounds_succ]
  go_wp2_with fail
  rw [rounds_succ]
  go_wp2_with fail
  refine (growR_c _ (a.length + b.length) (by simp) (by omega) _).mono ?_; rintro e w1 ⟨v, rfl, hown, hb1⟩
  have hz1 := hb1.size; obtain ⟨hc1, hf1⟩ := bcell hb1
  have hbase1 : w.heap.size ≤ w1.heap.size := hz1
  go_wp2_with fail
  refine wp_loop_rounds 3 ?_
  rw [rounds_succ]
  go_wp2_with (at_builtin; refine wpList_app_in rfl (.tmp 31) (.tmp 32) _ rfl w.heap.size 68 i0 _ 8 64 Tryd.underlying23 hi0 hz0 hs0 hb0 (by rfl) (by decide) v 0 [] rfl hown A a.length ca (a.flatMap R8.enc) rfl (HA.out.src.below hb1) (flat_one _) (by unfold maxLen; omega) (by omega) hbase1 ?_; intro v1 w2 hown1 hg1)
  have hB2 : Below w.heap.size w w2 := hb1.grown hg1 hbase1 (fun k hk => (hown.lt k hk).1)
  obtain ⟨hc2, hf2⟩ := bcell hB2; have hz2 := hB2.size
  rw [rounds_succ]
  go_wp2_with (at_builtin; refine wpList_app_in rfl (.tmp 31) (.tmp 32) _ rfl w.heap.size 68 i0 _ 8 64 Tryd.underlying23 hi0 hz0 hs0 hb0 (by rfl) (by decide) v1 (0 + a.length) ([] ++ a.flatMap R8.enc) rfl hown1 B b.length cb (b.flatMap R8.enc) rfl (HB.out.src.below hB2) (flat_one _) (by unfold maxLen; omega) (by omega) hz2 ?_; intro v2 w3 hown2 hg2)
  rw [rounds_succ]
  go_wp2_with fail
  go_ret
  exact ⟨_, rfl, by simpa using hown2, hB2.grown hg2 hz2 (fun k hk => (hown1.lt k hk).1)⟩
end Go.Proofs.YtlilffoflkkbdaaDoor
