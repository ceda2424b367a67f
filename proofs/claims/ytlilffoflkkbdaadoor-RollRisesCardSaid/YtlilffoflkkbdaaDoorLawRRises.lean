/- The walk of RollRises: the law returns true for every input. Conditions: the tables of months' lengths and of the ways' names lie as the program's text lays them. -/
import Derived.Test.YtlilffoflkkbdaaDoorRRiA
import Derived.Test.YtlilffoflkkbdaaDoorRRiB
import Derived.Test.YtlilffoflkkbdaaDoorRRiC
import Derived.Test.YtlilffoflkkbdaaDoorRRiD
namespace Go.Proofs.YtlilffoflkkbdaaDoor
open Go.RowKit
set_option linter.unusedVariables false
theorem up_rises {c : CalP} {n m a b : Int} (hn : n ≤ m) (h1 : sk c 1 61 n = (a, 0)) (h2 : sk c 1 61 m = (b, 0)) : a ≤ b := by
  obtain ⟨j, j1, j2, j3, j4⟩ := sk_ok _ _ _ h1
  obtain ⟨i, i1, i2, i3, i4⟩ := sk_ok _ _ _ h2
  apply Decidable.byContradiction
  intro h
  have hx := (j4 (b - n).toNat (by omega)).2
  rw [show n + ((b - n).toNat : Int) * 1 = b by omega, i3] at hx
  cases hx
theorem dn_rises {c : CalP} {n m a b : Int} (hn : n ≤ m) (h1 : sk c (-1) 61 n = (a, 0)) (h2 : sk c (-1) 61 m = (b, 0)) : a ≤ b := by
  obtain ⟨j, j1, j2, j3, j4⟩ := sk_ok _ _ _ h1
  obtain ⟨i, i1, i2, i3, i4⟩ := sk_ok _ _ _ h2
  apply Decidable.byContradiction
  intro h
  have hx := (i4 (m - a).toNat (by omega)).2
  rw [show m + ((m - a).toNat : Int) * -1 = a by omega, j3] at hx
  cases hx
theorem rl_twice {c : CalP} {n k x : Int} (hd : dayB n = true) (k1 : 0 ≤ k) (k2 : k ≤ 4) (h : rl c n k = (x, 0)) : rl c x k = (x, 0) ∧ 1 ≤ x ∧ x ≤ 3652059 := by
  have hn : 1 ≤ n ∧ n ≤ 3652059 := of_decide_eq_true hd
  rcases rl_cases c n k k1 k2 with ⟨k0, h0⟩ | h0 | h0
  · rw [h0, if_pos hd] at h
    obtain rfl : n = x := (Prod.mk.inj h).1
    exact ⟨by rw [h0, if_pos hd], hn⟩
  · rw [h0] at h
    obtain ⟨_, _, _, hi, _⟩ := sk_ok _ _ _ h
    exact ⟨rl_self hi k1 k2, CalP.is_day hi⟩
  · rw [h0] at h
    obtain ⟨_, _, _, hi, _⟩ := sk_ok _ _ _ h
    exact ⟨rl_self hi k1 k2, CalP.is_day hi⟩
theorem rl_bad {c : CalP} {n k x i : Int} (hd : dayB n = true) (k1 : 0 ≤ k) (k2 : k ≤ 4) (h : rl c n k = (x, i)) (hi : i ≠ 0) : x = 0 := by
  rcases rl_cases c n k k1 k2 with ⟨k0, h0⟩ | h0 | h0
  · rw [h0, if_pos hd] at h; exact absurd (Prod.mk.inj h).2.symm hi
  · rw [h0] at h; exact (sk_bad _ _ _ _ h hi).1
  · rw [h0] at h; exact (sk_bad _ _ _ _ h hi).1
theorem rollRises_walk (c : CalP) (n mo q : Int) (hn : I64 n) (hmo : 0 ≤ mo ∧ mo ≤ 255) (hq : 0 ≤ q ∧ q ≤ 255) (w : World) (hL : Laid w) (hN : Named w) (hc : CalIn w c) : Calls Tryd.prog 6 #[.agg #[.bool c.o0, .bool c.o1, .bool c.o2, .bool c.o3, .bool c.o4, .bool c.o5, .bool c.o6, .slice c.A c.rs.length c.cR, .slice c.D c.ds.length c.cD, .int .i64 n, .int .u8 mo, .int .u8 q]] w fun e w' => e = .returned (.bool true) ∧ Below w.heap.size w w' := by
  have z1 : IntKind.i64.wrap mo = mo := IntWalk.i64_in _ (by omega)
  obtain ⟨m, s0⟩ : ∃ m, IntKind.i64.wrap (n + mo) = m := ⟨_, rfl⟩
  cases hf : c.few
  · exact rollRises_few c n mo q m z1 s0 hf w hL hN hc
  cases hm : c.may
  · exact rollRises_may c n mo q m z1 s0 hf hm w hL hN hc
  cases dy : dayB n
  · exact rollRises_day c n mo q m z1 s0 hf hm dy w hL hN hc
  have hd : 1 ≤ n ∧ n ≤ 3652059 := of_decide_eq_true dy
  have hmm : n + mo = m := by rw [← s0]; exact (IntWalk.i64_in _ (by omega)).symm
  by_cases h : 3652059 < m
  · exact rollRises_hi c n mo q m z1 s0 hf hm dy h w hL hN hc
  have z2 : IntKind.i64.wrap q = q := IntWalk.i64_in _ (by omega)
  obtain ⟨k, hk⟩ : ∃ k, q % 5 = k := ⟨_, rfl⟩
  have k1 : 0 ≤ k := by omega
  have k2 : k ≤ 4 := by omega
  have hqk : q.tmod 5 = k := (Int.tmod_eq_emod_of_nonneg hq.1).trans hk
  have i1 : I64 m := ⟨by omega, by omega⟩
  have hnm : n ≤ m := by omega
  have hm2 : m ≤ 3652059 := by omega
  obtain ⟨a, e, U1⟩ : ∃ a e, sk c 1 61 n = (a, e) := ⟨_, _, rfl⟩
  obtain ⟨b, f, U2⟩ : ∃ a e, sk c 1 61 m = (a, e) := ⟨_, _, rfl⟩
  obtain ⟨p, g, V1⟩ : ∃ a e, sk c (-1) 61 n = (a, e) := ⟨_, _, rfl⟩
  obtain ⟨r, h', V2⟩ : ∃ a e, sk c (-1) 61 m = (a, e) := ⟨_, _, rfl⟩
  obtain ⟨x, i, T1⟩ : ∃ a e, rl c n k = (a, e) := ⟨_, _, rfl⟩
  have hu : e ≠ 0 ∨ (e = 0 ∧ f ≠ 0) ∨ (e = 0 ∧ f = 0) := by omega
  have hv : g ≠ 0 ∨ (g = 0 ∧ h' ≠ 0) ∨ (g = 0 ∧ h' = 0) := by omega
  have nz' : ∀ {x : Int}, x ≠ 0 → (x != 0) = true := fun hx => by unfold bne; rw [beqF hx]; rfl
  by_cases hi : i = 0
  · subst hi
    obtain ⟨T2, x1, x2⟩ := rl_twice dy k1 k2 T1
    have ix : I64 x := ⟨by omega, by omega⟩
    rcases hu with hu | ⟨rfl, hu⟩ | ⟨rfl, rfl⟩ <;> rcases hv with hv | ⟨rfl, hv⟩ | ⟨rfl, rfl⟩
    · exact rollRises_001 c n mo q m z1 s0 hf hm dy hm2 hn i1 k z2 hqk a e b f p g r h' x 0 U1 U2 V1 V2 (beqF hu) (beqF hv) T1 T2 ix w hL hN hc
    · exact rollRises_011 c n mo q m z1 s0 hf hm dy hm2 hn i1 k z2 hqk a e b f p 0 r h' x 0 U1 U2 V1 V2 (beqF hu) (beqF hv) T1 T2 ix w hL hN hc
    · exact rollRises_021 c n mo q m z1 s0 hf hm dy hm2 hn i1 k z2 hqk a e b f p 0 r 0 x 0 U1 U2 V1 V2 (beqF hu) (decide_eq_false (by have := dn_rises hnm V1 V2; omega)) T1 T2 ix w hL hN hc
    · exact rollRises_101 c n mo q m z1 s0 hf hm dy hm2 hn i1 k z2 hqk a 0 b f p g r h' x 0 U1 U2 V1 V2 (beqF hu) (beqF hv) T1 T2 ix w hL hN hc
    · exact rollRises_111 c n mo q m z1 s0 hf hm dy hm2 hn i1 k z2 hqk a 0 b f p 0 r h' x 0 U1 U2 V1 V2 (beqF hu) (beqF hv) T1 T2 ix w hL hN hc
    · exact rollRises_121 c n mo q m z1 s0 hf hm dy hm2 hn i1 k z2 hqk a 0 b f p 0 r 0 x 0 U1 U2 V1 V2 (beqF hu) (decide_eq_false (by have := dn_rises hnm V1 V2; omega)) T1 T2 ix w hL hN hc
    · exact rollRises_201 c n mo q m z1 s0 hf hm dy hm2 hn i1 k z2 hqk a 0 b 0 p g r h' x 0 U1 U2 V1 V2 (decide_eq_false (by have := up_rises hnm U1 U2; omega)) (beqF hv) T1 T2 ix w hL hN hc
    · exact rollRises_211 c n mo q m z1 s0 hf hm dy hm2 hn i1 k z2 hqk a 0 b 0 p 0 r h' x 0 U1 U2 V1 V2 (decide_eq_false (by have := up_rises hnm U1 U2; omega)) (beqF hv) T1 T2 ix w hL hN hc
    · exact rollRises_221 c n mo q m z1 s0 hf hm dy hm2 hn i1 k z2 hqk a 0 b 0 p 0 r 0 x 0 U1 U2 V1 V2 (decide_eq_false (by have := up_rises hnm U1 U2; omega)) (decide_eq_false (by have := dn_rises hnm V1 V2; omega)) T1 T2 ix w hL hN hc
  · obtain rfl : x = 0 := rl_bad dy k1 k2 T1 hi
    rcases hu with hu | ⟨rfl, hu⟩ | ⟨rfl, rfl⟩ <;> rcases hv with hv | ⟨rfl, hv⟩ | ⟨rfl, rfl⟩
    · exact rollRises_000 c n mo q m z1 s0 hf hm dy hm2 hn i1 k z2 hqk a e b f p g r h' 0 i U1 U2 V1 V2 (beqF hu) (beqF hv) T1 (nz' hi) w hL hN hc
    · exact rollRises_010 c n mo q m z1 s0 hf hm dy hm2 hn i1 k z2 hqk a e b f p 0 r h' 0 i U1 U2 V1 V2 (beqF hu) (beqF hv) T1 (nz' hi) w hL hN hc
    · exact rollRises_020 c n mo q m z1 s0 hf hm dy hm2 hn i1 k z2 hqk a e b f p 0 r 0 0 i U1 U2 V1 V2 (beqF hu) (decide_eq_false (by have := dn_rises hnm V1 V2; omega)) T1 (nz' hi) w hL hN hc
    · exact rollRises_100 c n mo q m z1 s0 hf hm dy hm2 hn i1 k z2 hqk a 0 b f p g r h' 0 i U1 U2 V1 V2 (beqF hu) (beqF hv) T1 (nz' hi) w hL hN hc
    · exact rollRises_110 c n mo q m z1 s0 hf hm dy hm2 hn i1 k z2 hqk a 0 b f p 0 r h' 0 i U1 U2 V1 V2 (beqF hu) (beqF hv) T1 (nz' hi) w hL hN hc
    · exact rollRises_120 c n mo q m z1 s0 hf hm dy hm2 hn i1 k z2 hqk a 0 b f p 0 r 0 0 i U1 U2 V1 V2 (beqF hu) (decide_eq_false (by have := dn_rises hnm V1 V2; omega)) T1 (nz' hi) w hL hN hc
    · exact rollRises_200 c n mo q m z1 s0 hf hm dy hm2 hn i1 k z2 hqk a 0 b 0 p g r h' 0 i U1 U2 V1 V2 (decide_eq_false (by have := up_rises hnm U1 U2; omega)) (beqF hv) T1 (nz' hi) w hL hN hc
    · exact rollRises_210 c n mo q m z1 s0 hf hm dy hm2 hn i1 k z2 hqk a 0 b 0 p 0 r h' 0 i U1 U2 V1 V2 (decide_eq_false (by have := up_rises hnm U1 U2; omega)) (beqF hv) T1 (nz' hi) w hL hN hc
    · exact rollRises_220 c n mo q m z1 s0 hf hm dy hm2 hn i1 k z2 hqk a 0 b 0 p 0 r 0 0 i U1 U2 V1 V2 (decide_eq_false (by have := up_rises hnm U1 U2; omega)) (decide_eq_false (by have := dn_rises hnm V1 V2; omega)) T1 (nz' hi) w hL hN hc
end Go.Proofs.YtlilffoflkkbdaaDoor
