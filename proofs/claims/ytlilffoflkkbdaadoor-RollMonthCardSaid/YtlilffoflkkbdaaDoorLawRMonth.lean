/- The walk of RollMonth: the law returns true for every input. Conditions: the tables of months' lengths and of the ways' names lie as the program's text lays them. -/
import Derived.Test.YtlilffoflkkbdaaDoorRMoA
import Derived.Test.YtlilffoflkkbdaaDoorRMoB
import Derived.Test.YtlilffoflkkbdaaDoorRMoC
import Derived.Test.YtlilffoflkkbdaaDoorRMoD
namespace Go.Proofs.YtlilffoflkkbdaaDoor
open Go.RowKit
set_option linter.unusedVariables false
theorem rl_one (c : CalP) (n : Int) : rl c n 1 = sk c 1 61 n := rfl
theorem rl_three (c : CalP) (n : Int) : rl c n 3 = sk c (-1) 61 n := rfl
theorem rl_two_e {c : CalP} {n a e : Int} (h : sk c 1 61 n = (a, e)) (he : e ≠ 0) : rl c n 2 = (a, e) := by
  show (if (sk c 1 61 n).2 = 0 ∧ sameM (sk c 1 61 n).1 n = false then sk c (-1) 61 n else sk c 1 61 n) = _
  rw [h, if_neg (fun g => he g.1)]
theorem rl_four_e {c : CalP} {n a e : Int} (h : sk c (-1) 61 n = (a, e)) (he : e ≠ 0) : rl c n 4 = (a, e) := by
  show (if (sk c (-1) 61 n).2 = 0 ∧ sameM (sk c (-1) 61 n).1 n = false then sk c 1 61 n else sk c (-1) 61 n) = _
  rw [h, if_neg (fun g => he g.1)]
theorem rl_two_in {c : CalP} {n a : Int} (h : sk c 1 61 n = (a, 0)) (hs : sameM a n = true) : rl c n 2 = (a, 0) := by
  show (if (sk c 1 61 n).2 = 0 ∧ sameM (sk c 1 61 n).1 n = false then sk c (-1) 61 n else sk c 1 61 n) = _
  rw [h, if_neg (fun g => by have := g.2; rw [show sameM (a, (0 : Int)).1 n = true from hs] at this; cases this)]
theorem rl_two_out {c : CalP} {n a : Int} (h : sk c 1 61 n = (a, 0)) (hs : sameM a n = false) : rl c n 2 = sk c (-1) 61 n := by
  show (if (sk c 1 61 n).2 = 0 ∧ sameM (sk c 1 61 n).1 n = false then sk c (-1) 61 n else sk c 1 61 n) = _
  rw [h, if_pos ⟨rfl, hs⟩]
theorem rl_four_in {c : CalP} {n a : Int} (h : sk c (-1) 61 n = (a, 0)) (hs : sameM a n = true) : rl c n 4 = (a, 0) := by
  show (if (sk c (-1) 61 n).2 = 0 ∧ sameM (sk c (-1) 61 n).1 n = false then sk c 1 61 n else sk c (-1) 61 n) = _
  rw [h, if_neg (fun g => by have := g.2; rw [show sameM (a, (0 : Int)).1 n = true from hs] at this; cases this)]
theorem rl_four_out {c : CalP} {n a : Int} (h : sk c (-1) 61 n = (a, 0)) (hs : sameM a n = false) : rl c n 4 = sk c 1 61 n := by
  show (if (sk c (-1) 61 n).2 = 0 ∧ sameM (sk c (-1) 61 n).1 n = false then sk c 1 61 n else sk c (-1) 61 n) = _
  rw [h, if_pos ⟨rfl, hs⟩]
theorem same_ways (a n : Int) : ((ofY a == ofY n) = true ∧ (ofM a == ofM n) = true ∧ sameM a n = true) ∨ ((ofY a == ofY n) = false ∧ sameM a n = false) ∨ ((ofY a == ofY n) = true ∧ (ofM a == ofM n) = false ∧ sameM a n = false) := by
  unfold sameM
  cases ofY a == ofY n <;> cases ofM a == ofM n <;> simp
theorem rollMonth_walk (c : CalP) (n : Int) (w : World) (hL : Laid w) (hN : Named w) (hc : CalIn w c) : Calls Tryd.prog 5 #[.agg #[.bool c.o0, .bool c.o1, .bool c.o2, .bool c.o3, .bool c.o4, .bool c.o5, .bool c.o6, .slice c.A c.rs.length c.cR, .slice c.D c.ds.length c.cD], .int .i64 n] w fun e w' => e = .returned (.bool true) ∧ Below w.heap.size w w' := by
  cases hf : c.few
  · exact rollMonth_few c n hf w hL hN hc
  cases hm : c.may
  · exact rollMonth_may c n hf hm w hL hN hc
  cases dy : dayB n
  · exact rollMonth_day c n hf hm dy w hL hN hc
  have hd : 1 ≤ n ∧ n ≤ 3652059 := of_decide_eq_true dy
  have i0 : I64 n := ⟨by omega, by omega⟩
  have nz : ∀ {x : Int}, x ≠ 0 → (x == 0) = false := fun hx => beqF hx
  have nz' : ∀ {x : Int}, x ≠ 0 → (x != 0) = true := fun hx => by unfold bne; rw [beqF hx]; rfl
  obtain ⟨a, e, U⟩ : ∃ a e, sk c 1 61 n = (a, e) := ⟨_, _, rfl⟩
  obtain ⟨b, f, V⟩ : ∃ a e, sk c (-1) 61 n = (a, e) := ⟨_, _, rfl⟩
  obtain ⟨x, g, T2⟩ : ∃ a e, rl c n 2 = (a, e) := ⟨_, _, rfl⟩
  obtain ⟨y, h, T4⟩ : ∃ a e, rl c n 4 = (a, e) := ⟨_, _, rfl⟩
  have T1 := (rl_one c n).trans U
  have T3 := (rl_three c n).trans V
  by_cases he : e = 0
  · subst he
    by_cases hf' : f = 0
    · subst hf'
      obtain ⟨_, _, _, ha, _⟩ := sk_ok _ _ _ U
      obtain ⟨_, _, _, hb, _⟩ := sk_ok _ _ _ V
      have da := CalP.is_day ha
      have db := CalP.is_day hb
      rcases same_ways a n with ⟨s1, s2, s3⟩ | ⟨s1, s3⟩ | ⟨s1, s2, s3⟩ <;> rcases same_ways b n with ⟨t1, t2, t3⟩ | ⟨t1, t3⟩ | ⟨t1, t2, t3⟩
      · exact rollMonth_00 c n hf hm dy i0 a 0 b 0 x g y h U V T1 T3 (rl_two_in U s3) (rl_four_in V t3) hd da db s1 s2 t1 t2 w hL hN hc
      · exact rollMonth_01 c n hf hm dy i0 a 0 b 0 x g y h U V T1 T3 (rl_two_in U s3) ((rl_four_out V t3).trans U) hd da db s1 s2 t1 w hL hN hc
      · exact rollMonth_02 c n hf hm dy i0 a 0 b 0 x g y h U V T1 T3 (rl_two_in U s3) ((rl_four_out V t3).trans U) hd da db s1 s2 t1 t2 w hL hN hc
      · exact rollMonth_10 c n hf hm dy i0 a 0 b 0 x g y h U V T1 T3 ((rl_two_out U s3).trans V) (rl_four_in V t3) hd da db s1 t1 t2 w hL hN hc
      · exact rollMonth_11 c n hf hm dy i0 a 0 b 0 x g y h U V T1 T3 ((rl_two_out U s3).trans V) ((rl_four_out V t3).trans U) hd da db s1 t1 w hL hN hc
      · exact rollMonth_12 c n hf hm dy i0 a 0 b 0 x g y h U V T1 T3 ((rl_two_out U s3).trans V) ((rl_four_out V t3).trans U) hd da db s1 t1 t2 w hL hN hc
      · exact rollMonth_20 c n hf hm dy i0 a 0 b 0 x g y h U V T1 T3 ((rl_two_out U s3).trans V) (rl_four_in V t3) hd da db s1 s2 t1 t2 w hL hN hc
      · exact rollMonth_21 c n hf hm dy i0 a 0 b 0 x g y h U V T1 T3 ((rl_two_out U s3).trans V) ((rl_four_out V t3).trans U) hd da db s1 s2 t1 w hL hN hc
      · exact rollMonth_22 c n hf hm dy i0 a 0 b 0 x g y h U V T1 T3 ((rl_two_out U s3).trans V) ((rl_four_out V t3).trans U) hd da db s1 s2 t1 t2 w hL hN hc
    · exact rollMonth_ze c n hf hm dy i0 a 0 b f x g y h U V T1 T3 T2 (rl_four_e V hf') (nz hf') (nz' hf') w hL hN hc
  · by_cases hf' : f = 0
    · subst hf'
      exact rollMonth_ez c n hf hm dy i0 a e b 0 x g y h U V T1 T3 (rl_two_e U he) T4 (nz he) (nz' he) w hL hN hc
    · exact rollMonth_ee c n hf hm dy i0 a e b f x g y h U V T1 T3 (rl_two_e U he) (rl_four_e V hf') (nz he) (nz' he) (nz hf') (nz' hf') w hL hN hc
end Go.Proofs.YtlilffoflkkbdaaDoor
