/- The walk of RollTwins: the law returns true for every input. Conditions: the tables of months' lengths and of the ways' names lie as the program's text lays them. -/
import Derived.Test.YtlilffoflkkbdaaDoorRTwA
import Derived.Test.YtlilffoflkkbdaaDoorRTwD
import Derived.Test.YtlilffoflkkbdaaDoorRolD
import Derived.Test.YtlilffoflkkbdaaDoorRolP
import Derived.Test.YtlilffoflkkbdaaDoorCalE
import Derived.Test.YtlilffoflkkbdaaDoorROpP
import Derived.Test.YtlilffoflkkbdaaDoorUndef
namespace Go.Proofs.YtlilffoflkkbdaaDoor
open Go.RowKit
set_option linter.unusedVariables false
theorem sk_more {c : CalP} {s : Int} : ∀ (r : Nat) (m : Int), sk c s (r + 1) m = sk c s r m ∨ (sk c s r m = (0, 8) ∧ (sk c s (r + 1) m = (m + (r : Int) * s, 0) ∨ (sk c s (r + 1) m).2 ≠ 0))
  | 0, m => by
    right
    refine ⟨rfl, ?_⟩
    by_cases hd : dayB m = true
    · by_cases hi : c.is m = true
      · left; rw [sk_hit hi]; simp
      · right; rw [sk_miss hd (by simpa using hi)]; exact (by decide : (8 : Int) ≠ 0)
    · right; rw [sk_out (by simpa using hd)]; exact (by decide : (3 : Int) ≠ 0)
  | r + 1, m => by
    by_cases hd : dayB m = true
    · by_cases hi : c.is m = true
      · left; rw [sk_hit hi, sk_hit hi]
      · have hi' : c.is m = false := by simpa using hi
        have es : m + s + (r : Int) * s = m + ((r + 1 : Nat) : Int) * s := by rw [Int.natCast_add, Int.add_mul]; simp; omega
        rw [sk_miss hd hi', sk_miss (r := r) hd hi', ← es]
        exact sk_more r (m + s)
    · left; rw [sk_out (by simpa using hd), sk_out (by simpa using hd)]
theorem twins {c : CalP} {s n : Int} (hd : dayB n = true) (hi : c.is n = false) : ∃ a e b f, sk c s 61 n = (a, e) ∧ sk c s 61 (n + s) = (b, f) ∧ ((e = 0 ∧ f = 0 ∧ b = a) ∨ (e ≠ 0 ∧ f = 0 ∧ b = n + s + 60 * s) ∨ (e ≠ 0 ∧ f ≠ 0)) := by
  obtain ⟨a, e, U1⟩ : ∃ a e, sk c s 61 n = (a, e) := ⟨_, _, rfl⟩
  obtain ⟨b, f, U2⟩ : ∃ a e, sk c s 61 (n + s) = (a, e) := ⟨_, _, rfl⟩
  obtain ⟨x, y, U3⟩ : ∃ a e, sk c s 60 (n + s) = (a, e) := ⟨_, _, rfl⟩
  have h : sk c s 61 n = sk c s 60 (n + s) := sk_miss (r := 60) (s := s) hd hi
  have hm := sk_more (c := c) (s := s) 60 (n + s)
  rw [show 60 + 1 = 61 from rfl] at hm
  rw [U1, U3] at h
  rw [U2, U3] at hm
  obtain ⟨rfl, rfl⟩ := Prod.mk.inj h
  refine ⟨a, e, b, f, U1, U2, ?_⟩
  rcases hm with h1 | ⟨h1, h2 | h2⟩
  · obtain ⟨rfl, rfl⟩ := Prod.mk.inj h1
    by_cases e0 : f = 0
    · exact Or.inl ⟨e0, e0, rfl⟩
    · exact Or.inr (Or.inr ⟨e0, e0⟩)
  · obtain ⟨rfl, rfl⟩ := Prod.mk.inj h1
    obtain ⟨rfl, rfl⟩ := Prod.mk.inj h2
    exact Or.inr (Or.inl ⟨by decide, rfl, rfl⟩)
  · obtain ⟨rfl, rfl⟩ := Prod.mk.inj h1
    exact Or.inr (Or.inr ⟨by decide, h2⟩)
theorem rollTwins_walk (c : CalP) (n : Int) (w : World) (hL : Laid w) (hN : Named w) (hc : CalIn w c) : Calls Tryd.prog 8 #[.agg #[.bool c.o0, .bool c.o1, .bool c.o2, .bool c.o3, .bool c.o4, .bool c.o5, .bool c.o6, .slice c.A c.rs.length c.cR, .slice c.D c.ds.length c.cD], .int .i64 n] w fun e w' => e = .returned (.bool true) ∧ Below w.heap.size w w' := by
  cases hf : c.few
  · exact rollTwins_few c n hf w hL hN hc
  cases hm : c.may
  · exact rollTwins_may c n hf hm w hL hN hc
  by_cases h1 : n < 2
  · exact rollTwins_lo c n hf hm h1 w hL hN hc
  by_cases h2 : 3652058 < n
  · exact rollTwins_hi c n hf hm (by omega) h2 w hL hN hc
  have n1 : 2 ≤ n := by omega
  have n2 : n ≤ 3652058 := by omega
  cases hi : c.is n
  · obtain ⟨a, e, b, f, U1, U2, hu⟩ := twins (c := c) (s := 1) (n := n) (dayB_in (by omega) (by omega)) hi
    obtain ⟨p, g, q, h, V1, V2, hv⟩ := twins (c := c) (s := -1) (n := n) (dayB_in (by omega) (by omega)) hi
    have V2' : sk c (-1) 61 (n - 1) = (q, h) := by rw [Int.sub_eq_add_neg]; exact V2
    clear V2
    have nz : ∀ {x : Int}, x ≠ 0 → (x == 0) = false := fun hx => beqF hx
    have nz' : ∀ {x : Int}, x ≠ 0 → (x != 0) = true := fun hx => by unfold bne; rw [beqF hx]; rfl
    rcases hu with ⟨rfl, rfl, rfl⟩ | ⟨he, rfl, rfl⟩ | ⟨he, hf'⟩ <;> rcases hv with ⟨rfl, rfl, rfl⟩ | ⟨hg, rfl, rfl⟩ | ⟨hg, hh⟩
    · exact rollTwins_00 c n hf hm n1 n2 hi _ 0 0 0 _ 0 0 0 U1 U2 V1 V2' w hL hN hc
    · exact rollTwins_01 c n hf hm n1 n2 hi _ 0 0 0 _ _ _ 0 U1 U2 V1 V2' (nz hg) (nz' hg) (beqT (by omega)) w hL hN hc
    · exact rollTwins_02 c n hf hm n1 n2 hi _ 0 0 0 _ _ _ _ U1 U2 V1 V2' (nz hg) (nz' hg) (nz hh) (nz' hh) w hL hN hc
    · exact rollTwins_10 c n hf hm n1 n2 hi _ _ _ 0 _ 0 0 0 U1 U2 V1 V2' (nz he) (nz' he) (beqT (by omega)) w hL hN hc
    · exact rollTwins_11 c n hf hm n1 n2 hi _ _ _ 0 _ _ _ 0 U1 U2 V1 V2' (nz he) (nz' he) (nz hg) (nz' hg) (beqT (by omega)) (beqT (by omega)) w hL hN hc
    · exact rollTwins_12 c n hf hm n1 n2 hi _ _ _ 0 _ _ _ _ U1 U2 V1 V2' (nz he) (nz' he) (nz hg) (nz' hg) (nz hh) (nz' hh) (beqT (by omega)) w hL hN hc
    · exact rollTwins_20 c n hf hm n1 n2 hi _ _ _ _ _ 0 0 0 U1 U2 V1 V2' (nz he) (nz' he) (nz hf') (nz' hf') w hL hN hc
    · exact rollTwins_21 c n hf hm n1 n2 hi _ _ _ _ _ _ _ 0 U1 U2 V1 V2' (nz he) (nz' he) (nz hf') (nz' hf') (nz hg) (nz' hg) (beqT (by omega)) w hL hN hc
    · exact rollTwins_22 c n hf hm n1 n2 hi _ _ _ _ _ _ _ _ U1 U2 V1 V2' (nz he) (nz' he) (nz hf') (nz' hf') (nz hg) (nz' hg) (nz hh) (nz' hh) w hL hN hc
  · exact rollTwins_is c n hf hm n1 n2 hi w hL hN hc
end Go.Proofs.YtlilffoflkkbdaaDoor
