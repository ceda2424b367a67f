/- The walk of RollNearest: the law returns true for every input. Conditions: the tables of months' lengths and of the ways' names lie as the program's text lays them. -/
import Derived.Test.YtlilffoflkkbdaaDoorRNeA
import Derived.Test.YtlilffoflkkbdaaDoorRNeB
import Derived.Test.YtlilffoflkkbdaaDoorRNeC
import Derived.Test.YtlilffoflkkbdaaDoorRNeD
import Derived.Test.YtlilffoflkkbdaaDoorRNeE
namespace Go.Proofs.YtlilffoflkkbdaaDoor
open Go.RowKit
set_option linter.unusedVariables false
theorem up_facts {c : CalP} {n a : Int} (U : sk c 1 61 n = (a, 0)) (hi : c.is n = false) : n < a ∧ a ≤ n + 60 ∧ a ≤ 3652059 ∧ c.is a = true ∧ ∀ i : Int, n ≤ i → i < a → c.is i = false := by
  obtain ⟨j, hj, ha, hai, hm⟩ := sk_ok 61 n a U
  have hd := CalP.is_day hai
  have h0 : j ≠ 0 := by
    rintro rfl
    rw [show n + ((0 : Nat) : Int) * 1 = n by omega] at ha
    rw [ha, hi] at hai; cases hai
  refine ⟨by omega, by omega, by omega, hai, fun i h1 h2 => ?_⟩
  have := (hm (i - n).toNat (by omega)).2
  rwa [show n + ((i - n).toNat : Int) * 1 = i by omega] at this
theorem dn_facts {c : CalP} {n b : Int} (V : sk c (-1) 61 n = (b, 0)) (hi : c.is n = false) : b < n ∧ n - 60 ≤ b ∧ 1 ≤ b ∧ c.is b = true ∧ ∀ i : Int, b < i → i ≤ n → c.is i = false := by
  obtain ⟨j, hj, ha, hai, hm⟩ := sk_ok 61 n b V
  have hd := CalP.is_day hai
  have h0 : j ≠ 0 := by
    rintro rfl
    rw [show n + ((0 : Nat) : Int) * -1 = n by omega] at ha
    rw [ha, hi] at hai; cases hai
  refine ⟨by omega, by omega, by omega, hai, fun i h1 h2 => ?_⟩
  have := (hm (n - i).toNat (by omega)).2
  rwa [show n + ((n - i).toNat : Int) * -1 = i by omega] at this
theorem rollNearest_walk (c : CalP) (n q : Int) (hq : 0 ≤ q ∧ q ≤ 255) (w : World) (hL : Laid w) (hN : Named w) (hc : CalIn w c) : Calls Tryd.prog 4 #[.agg #[.bool c.o0, .bool c.o1, .bool c.o2, .bool c.o3, .bool c.o4, .bool c.o5, .bool c.o6, .slice c.A c.rs.length c.cR, .slice c.D c.ds.length c.cD], .int .i64 n, .int .u8 q] w fun e w' => e = .returned (.bool true) ∧ Below w.heap.size w w' := by
  cases hf : c.few
  · exact rollNearest_few c n q hf w hL hN hc
  cases hm : c.may
  · exact rollNearest_may c n q hf hm w hL hN hc
  cases dy : dayB n
  · exact rollNearest_day c n q hf hm dy w hL hN hc
  have hd : 1 ≤ n ∧ n ≤ 3652059 := of_decide_eq_true dy
  obtain ⟨n1, n2⟩ := hd
  have i0 : I64 n := ⟨by omega, by omega⟩
  obtain ⟨q1, q2⟩ := hq
  obtain ⟨k, hk⟩ : ∃ k, q % 5 = k := ⟨_, rfl⟩
  have k1 : 0 ≤ k := by omega
  have k2 : k ≤ 4 := by omega
  have hqk : q.tmod 5 = k := by rw [Int.tmod_eq_emod_of_nonneg q1]; exact hk
  have z2 : IntKind.i64.wrap q = q := IntWalk.i64_in _ (by omega)
  have nz : ∀ {x : Int}, x ≠ 0 → (x == 0) = false := fun hx => beqF hx
  have nz' : ∀ {x : Int}, x ≠ 0 → (x != 0) = true := fun hx => by unfold bne; rw [beqF hx]; rfl
  cases hi : c.is n
  · obtain ⟨a, e, U⟩ : ∃ a e, sk c 1 61 n = (a, e) := ⟨_, _, rfl⟩
    obtain ⟨b, f, V⟩ : ∃ a e, sk c (-1) 61 n = (a, e) := ⟨_, _, rfl⟩
    obtain ⟨x, g, T⟩ : ∃ a e, rl c n k = (a, e) := ⟨_, _, rfl⟩
    have hr := rl_cases c n k k1 k2
    rw [dy, if_pos rfl, U, V, T] at hr
    by_cases he : e = 0 <;> by_cases hf' : f = 0
    · subst he
      obtain ⟨a1, a2, a3, ai, hup⟩ := up_facts U hi
      subst hf'
      obtain ⟨b1, b2, b3, bi, hdn⟩ := dn_facts V hi
      rcases hr with ⟨hk0, h⟩ | h | h
      · cases h; exact rollNearest_001 c n q hf hm dy n1 n2 hi i0 k z2 hqk a 0 b 0 n 0 U V a1 a2 a3 ai hup b1 b2 b3 bi hdn T (beqT hk0) w hL hN hc
      · cases h; exact rollNearest_002 c n q hf hm dy n1 n2 hi i0 k z2 hqk a 0 b 0 a 0 U V a1 a2 a3 ai hup b1 b2 b3 bi hdn T w hL hN hc
      · cases h; exact rollNearest_003 c n q hf hm dy n1 n2 hi i0 k z2 hqk a 0 b 0 b 0 U V a1 a2 a3 ai hup b1 b2 b3 bi hdn T w hL hN hc
    · subst he
      obtain ⟨a1, a2, a3, ai, hup⟩ := up_facts U hi
      obtain ⟨rfl, _⟩ := sk_bad _ _ _ _ V hf'
      rcases hr with ⟨hk0, h⟩ | h | h
      · cases h; exact rollNearest_011 c n q hf hm dy n1 n2 hi i0 k z2 hqk a 0 0 f n 0 U V a1 a2 a3 ai hup (nz hf') T (beqT hk0) w hL hN hc
      · cases h; exact rollNearest_012 c n q hf hm dy n1 n2 hi i0 k z2 hqk a 0 0 f a 0 U V a1 a2 a3 ai hup (nz hf') T w hL hN hc
      · cases h; exact rollNearest_010 c n q hf hm dy n1 n2 hi i0 k z2 hqk a 0 0 f 0 f U V a1 a2 a3 ai hup (nz hf') T (nz' hf') w hL hN hc
    · obtain ⟨rfl, _⟩ := sk_bad _ _ _ _ U he
      subst hf'
      obtain ⟨b1, b2, b3, bi, hdn⟩ := dn_facts V hi
      rcases hr with ⟨hk0, h⟩ | h | h
      · cases h; exact rollNearest_101 c n q hf hm dy n1 n2 hi i0 k z2 hqk 0 e b 0 n 0 U V (nz he) b1 b2 b3 bi hdn T (beqT hk0) w hL hN hc
      · cases h; exact rollNearest_100 c n q hf hm dy n1 n2 hi i0 k z2 hqk 0 e b 0 0 e U V (nz he) b1 b2 b3 bi hdn T (nz' he) w hL hN hc
      · cases h; exact rollNearest_103 c n q hf hm dy n1 n2 hi i0 k z2 hqk 0 e b 0 b 0 U V (nz he) b1 b2 b3 bi hdn T w hL hN hc
    · obtain ⟨rfl, _⟩ := sk_bad _ _ _ _ U he
      obtain ⟨rfl, _⟩ := sk_bad _ _ _ _ V hf'
      rcases hr with ⟨hk0, h⟩ | h | h
      · cases h; exact rollNearest_111 c n q hf hm dy n1 n2 hi i0 k z2 hqk 0 e 0 f n 0 U V (nz he) (nz hf') T (beqT hk0) w hL hN hc
      · cases h; exact rollNearest_110 c n q hf hm dy n1 n2 hi i0 k z2 hqk 0 e 0 f 0 e U V (nz he) (nz hf') T (nz' he) w hL hN hc
      · cases h; exact rollNearest_110 c n q hf hm dy n1 n2 hi i0 k z2 hqk 0 e 0 f 0 f U V (nz he) (nz hf') T (nz' hf') w hL hN hc
  · exact rollNearest_is c n q hf hm dy n1 n2 hi i0 k z2 hqk (sk_self hi) (sk_self hi) (rl_self hi k1 k2) w hL hN hc
end Go.Proofs.YtlilffoflkkbdaaDoor
