/- Numbers of any size, the document's: the sum, and what is left. Conditions: sizes far below the machine's. -/
import Derived.Test.YtjcjchapfiokeaaDoorBigB
import Derived.Deep.RegionHeld3
namespace Go.Proofs.YtjcjchapfiokeaaDoor
open Go.RowKit
set_option linter.unusedVariables false
set_option linter.unusedSimpArgs false
theorem own_blk {X W : World} {base n size : Nat} {e : TypeId} {v : Value} {xs : List Value} (h : X.ownsRow base e size v n xs) (hb : Below X.heap.size X W) : W.ownsRow base e size v n xs := by
  refine ⟨h.1, ?_⟩
  rcases h.2 with ⟨h1, h2⟩ | ⟨g, cap, cur, h1, h2, h3, h4⟩
  · exact Or.inl ⟨h1, h2⟩
  · exact Or.inr ⟨g, cap, cur, h1, h2, blk_st hb h3, h4⟩
theorem less_round (p A0 B0 v : Int) (A1 B1 x y bw s bw' : Int) (hA : A0 = 10000 * A1 + x) (hB : B0 = 10000 * B1 + y) (hs : s = x - y - bw + 10000 * bw') : v + p * s + p * 10000 * (A1 - B1 - bw') = v + p * (A0 - B0 - bw) := by
  subst hA hB hs
  grind
theorem vl_snoc (l : List Int) (z : Int) : vl (l ++ [z]) = vl l + 10000 ^ l.length * z := by rw [vl_append]; simp [vl]
theorem less_step {n m k : Nat} {out : List Int} {x y bw z bw' : Int} (hx : pt n k = x) (hy : pt m k = y) (hol : out.length = k) (hV : vl out + 10000 ^ k * (((n / 10000 ^ k : Nat) : Int) - ((m / 10000 ^ k : Nat) : Int) - bw) = (n : Int) - m) (hz : z = x - y - bw + 10000 * bw') :
    vl (out ++ [z]) + 10000 ^ (k + 1) * (((n / 10000 ^ (k + 1) : Nat) : Int) - ((m / 10000 ^ (k + 1) : Nat) : Int) - bw') = (n : Int) - m := by
  rw [vl_snoc, hol, Int.pow_succ, ← hV]
  refine less_round _ _ _ _ _ _ x y bw z bw' ?_ ?_ hz
  · rw [← hx]; exact part_step n k
  · rw [← hy]; exact part_step m k
theorem less_end {n m la : Nat} {out : List Int} {bw : Int} (hla : (dg n).length = la) (hmn : m ≤ n) (hb : bw = 0 ∨ bw = 1) (hol : out.length = la) (hP : PartL out) (hV : vl out + 10000 ^ la * (((n / 10000 ^ la : Nat) : Int) - ((m / 10000 ^ la : Nat) : Int) - bw) = (n : Int) - m) : (vl out).toNat = n - m := by
  have h1 : n / 10000 ^ la = 0 := dg_high (by omega)
  have h2 : m / 10000 ^ la = 0 := by
    have h := Nat.div_le_div_right (c := 10000 ^ la) hmn
    rw [h1] at h; exact Nat.le_zero.1 h
  rw [h1, h2] at hV
  have h3 := vl_bd out hP
  rw [hol] at h3
  rcases hb with rfl | rfl
  · simp at hV; omega
  · have : (10000 : Int) ^ la * (((0 : Nat) : Int) - ((0 : Nat) : Int) - 1) = -(10000 ^ la) := by simp
    rw [this] at hV; omega
theorem plus_step {n m k cy N sN : Nat} {out : List Int} (hO : out ++ dg (cy + n / 10000 ^ k + m / 10000 ^ k) = dg N) (hpos : 0 < cy + n / 10000 ^ k + m / 10000 ^ k) (hs : sN = cy + n / 10000 ^ k % 10000 + m / 10000 ^ k % 10000) :
    (out ++ [((sN % 10000 : Nat) : Int)]) ++ dg (sN / 10000 + n / 10000 ^ (k + 1) + m / 10000 ^ (k + 1)) = dg N := by
  rw [← hO, dg_pos hpos, List.append_assoc, div_step, div_step, hs]
  show out ++ ([_] ++ dg _) = _
  rw [List.singleton_append]
  congr 3
  · omega
  · omega
set_option maxRecDepth 100000 in
set_option maxHeartbeats 8000000 in
theorem bless_c (A B : Option Addr) (ca cb n m la lb : Nat) (hla : Hid ((dg n).length = la)) (hlb : Hid ((dg m).length = lb)) (ba : la ≤ 10000) (bb : lb ≤ 10000) (hmn : m ≤ n) (w : World) (ha : DIn w A (dg n)) (hb : DIn w B (dg m)) : Calls Tryd.prog 97 #[.agg #[.slice A la ca], .agg #[.slice B lb cb]] w (BigRet (n - m) w) := by
  obtain ⟨i0, hi0, hz0, hs0, hb0⟩ := info_parts infoD
  go_enter Tryd.func97, Tryd.ntmps97
  go_wp2_with fail
  generalize hW : (((w.alloc _).alloc _).alloc _) = w0
  have hB0 : Below w.heap.size w w0 := by rw [← hW]; exact below_al (below_al (below_al (Below.refl _ _)))
  have hz0w : w0.heap.size = w.heap.size + 3 := by rw [← hW]; simp
  have ga : w0.cell? ⟨w.heap.size, 0, none⟩ = some (.slice A la ca) := by rw [← hW]; exact cell_al (cell_al (cell_nu rfl rfl))
  have gb : w0.cell? ⟨w.heap.size + 1, 0, none⟩ = some (.slice B lb cb) := by rw [← hW]; exact cell_al (cell_nu (by simp) rfl)
  have gr : w0.cell? ⟨w.heap.size + 1 + 1, 0, none⟩ = some (.slice none 0 0) := by rw [← hW]; exact cell_nu (by simp) rfl
  have gf : w0.frozen? ⟨w.heap.size + 1 + 1, 0, none⟩ = false := by rw [← hW]; exact blk_free (blk_nu (by simp))
  have HA := Lib.hid (ha.below hB0); have HB := Lib.hid (hb.below hB0); have GA := Lib.hid ga; have GB := Lib.hid gb; have GR := Lib.hid gr; have GF := Lib.hid gf; have HZ0 := Lib.hid hz0w
  clear hW ha hb ga gb gr gf hz0w
  go_loopw [5, 6, 7] (fun v q p wr => ∃ (k : Nat) (out : List Int) (bw : Int), k ≤ la ∧ p = .int .i64 k ∧ q = .int .i64 bw ∧ (bw = 0 ∨ bw = 1) ∧ out.length = k ∧ Hid (PartL out) ∧ Hid (vl out + 10000 ^ k * (((n / 10000 ^ k : Nat) : Int) - ((m / 10000 ^ k : Nat) : Int) - bw) = (n : Int) - m) ∧ Hid (wr.ownsRow w0.heap.size 3 1 v out.length (ints out)) ∧ Hid (Below w0.heap.size w0 wr)) (fun _ _ p _ => la - (intOf p).toNat)
  case atStart => exact ⟨0, [], 0, Nat.zero_le _, rfl, rfl, Or.inl rfl, rfl, Lib.hid (fun x hx => by cases hx), Lib.hid (by simp [vl]), Lib.hid (World.ownsRow_nil _ _ _ _), Lib.hid (Below.refl _ _)⟩
  case round =>
    obtain ⟨k, out, bw, hk, rfl, rfl, hbw, hol, hPL, hV, hown, hBr⟩ := hrel
    have hzr := hBr.out.size
    have g1 := below_some hBr.out _ _ _ GA.out
    have g2 := below_some hBr.out _ _ _ GB.out
    by_cases hlt : k < la
    · have hlz : (k : Int) < (la : Int) := by omega
      have hd1 := decide_eq_true hlz
      have HX : ∃ x, pt n k = x := ⟨_, rfl⟩
      have HY : ∃ y, pt m k = y := ⟨_, rfl⟩
      obtain ⟨x, hx⟩ := HX
      obtain ⟨y, hy⟩ := HY
      have xb := pt_bd n k; have yb := pt_bd m k
      rw [hx] at xb; rw [hy] at yb
      have HX := Lib.hid hx; have HY := Lib.hid hy; clear hx hy
      have HA2 := Lib.hid (HA.out.below hBr.out); have HB2 := Lib.hid (HB.out.below hBr.out)
      have s1 : IntKind.i64.wrap (x - y) = x - y := IntWalk.i64_in _ (by omega)
      have s2 : IntKind.i64.wrap (x - y - bw) = x - y - bw := IntWalk.i64_in _ (by omega)
      have s3 : IntKind.i64.wrap (x - y - bw + 10000) = x - y - bw + 10000 := IntWalk.i64_in _ (by omega)
      have s4 : IntKind.i64.wrap ((k : Int) + 1) = (k : Int) + 1 := IntWalk.i64_in _ (by omega)
      go_wp2_with fail
      have hRf : Below wr.heap.size wr wr := Below.refl _ _
      have HS : Hid (∀ W, Below wr.heap.size wr W → (fun W' => Below wr.heap.size wr W' ∧ W'.cell? ⟨w.heap.size, 0, none⟩ = some (.slice A la ca) ∧ W'.cell? ⟨w.heap.size + 1, 0, none⟩ = some (.slice B lb cb)) W) := Lib.hid (fun W h => ⟨h, below_some h _ _ _ g1, below_some h _ _ _ g2⟩)
      go_region_held3 (fun W' => Below wr.heap.size wr W' ∧ W'.cell? ⟨w.heap.size, 0, none⟩ = some (.slice A la ca) ∧ W'.cell? ⟨w.heap.size + 1, 0, none⟩ = some (.slice B lb cb)) ((refine HS.out _ ?_; repeat (first | (with_reducible assumption) | (with_reducible exact Below.refl _ _) | (with_reducible refine Below.drew ?_) | (with_reducible refine below_drewN' ?_ _) | (with_reducible refine below_al ?_) | ((with_reducible refine below_set ?_ ?_); rotate_left; focus (first | (simp; done) | (simp; omega)))))) (first | (go_at_call_of 87 (Value.agg #[.slice A la ca]); refine (bpart_c A ca n k la x hla HX (by omega) _ (HA2.out.below (by repeat (first | (with_reducible assumption) | (with_reducible exact Below.refl _ _) | (with_reducible refine Below.drew ?_) | (with_reducible refine below_drewN' ?_ _) | (with_reducible refine below_al ?_) | ((with_reducible refine below_set ?_ ?_); rotate_left; focus (first | (simp; done) | (simp; omega))))))).mono ?_; rintro e wq ⟨rfl, hbq⟩; have hBq := below_step (w := wr) hbq (by repeat (first | (with_reducible assumption) | (with_reducible exact Below.refl _ _) | (with_reducible refine Below.drew ?_) | (with_reducible refine below_drewN' ?_ _) | (with_reducible refine below_al ?_) | ((with_reducible refine below_set ?_ ?_); rotate_left; focus (first | (simp; done) | (simp; omega))))); clear hbq) | (go_at_call_of 87 (Value.agg #[.slice B lb cb]); refine (bpart_c B cb m k lb y hlb HY (by omega) _ (HB2.out.below (by repeat (first | (with_reducible assumption) | (with_reducible exact Below.refl _ _) | (with_reducible refine Below.drew ?_) | (with_reducible refine below_drewN' ?_ _) | (with_reducible refine below_al ?_) | ((with_reducible refine below_set ?_ ?_); rotate_left; focus (first | (simp; done) | (simp; omega))))))).mono ?_; rintro e wq ⟨rfl, hbq⟩; have hBq := below_step (w := wr) hbq (by repeat (first | (with_reducible assumption) | (with_reducible exact Below.refl _ _) | (with_reducible refine Below.drew ?_) | (with_reducible refine below_drewN' ?_ _) | (with_reducible refine below_al ?_) | ((with_reducible refine below_set ?_ ?_); rotate_left; focus (first | (simp; done) | (simp; omega))))); clear hbq))
      generalize hs : x - y - bw = s at *
      have HSm := Lib.hid hs; clear hs HS
      by_cases hneg : s < 0
      · have dn := decide_eq_true hneg
        have nV := Lib.hid (less_step (z := (s + 10000)) (bw' := 1) HX.out HY.out hol hV.out (by have := HSm.out; omega))
        have nP := Lib.hid (parts_snoc hPL.out (s + 10000) (by have := HSm.out; omega))
        go_wp2_with (at_builtin; refine wpList_app_in rfl (.tmp 29) (.tmp 31) _ rfl w0.heap.size 3 i0 _ 1 8 Tryd.underlying100 hi0 hz0 hs0 hb0 (by rfl) (by decide) _ out.length (ints out) rfl (own_blk hown.out (by have hRf := hRf; have hBq := hBq; repeat (first | (with_reducible assumption) | (with_reducible exact Below.refl _ _) | (with_reducible refine Below.drew ?_) | (with_reducible refine below_drewN' ?_ _) | (with_reducible refine below_al ?_) | ((with_reducible refine below_set ?_ ?_); rotate_left; focus (first | (simp; done) | (simp; omega)))))) (some ⟨_, 0, none⟩) 1 1 [.int .i64 (s + 10000)] rfl (src_one _ _ _) (int_one _) (by unfold maxLen; omega) (by omega) (by have := hBq.size; simp; omega) ?_; intro v1 w1 hown1 hg1; have hB1 : Hid (Below w0.heap.size w0 w1) := Lib.hid (Below.grown (hBr.out.trans ((by have hRf := hRf; have hBq := hBq; repeat (first | (with_reducible assumption) | (with_reducible exact Below.refl _ _) | (with_reducible refine Below.drew ?_) | (with_reducible refine below_drewN' ?_ _) | (with_reducible refine below_al ?_) | ((with_reducible refine below_set ?_ ?_); rotate_left; focus (first | (simp; done) | (simp; omega)))) : Below wr.heap.size wr _).mono hBr.out.size)) hg1 (by have := hBq.size; simp; omega) (fun k hk => (hown.out.lt k hk).1)); have hown2 : Hid (w1.ownsRow w0.heap.size 3 1 v1 (out ++ [(s + 10000)]).length (ints (out ++ [(s + 10000)]))) := Lib.hid (by rw [List.length_append, ← ints_snoc]; exact hown1))
        go_roundw
        case rel => exact ⟨k + 1, out ++ [(s + 10000)], 1, by omega, by go_num, rfl, by simp, by simp [hol], nP, nV, hown2, hB1⟩
        case measure => simp [intOf]; omega
      · have dn := decide_eq_false hneg
        have nV := Lib.hid (less_step (z := s) (bw' := 0) HX.out HY.out hol hV.out (by have := HSm.out; omega))
        have nP := Lib.hid (parts_snoc hPL.out s (by have := HSm.out; omega))
        go_wp2_with (at_builtin; refine wpList_app_in rfl (.tmp 29) (.tmp 31) _ rfl w0.heap.size 3 i0 _ 1 8 Tryd.underlying100 hi0 hz0 hs0 hb0 (by rfl) (by decide) _ out.length (ints out) rfl (own_blk hown.out (by have hRf := hRf; have hBq := hBq; repeat (first | (with_reducible assumption) | (with_reducible exact Below.refl _ _) | (with_reducible refine Below.drew ?_) | (with_reducible refine below_drewN' ?_ _) | (with_reducible refine below_al ?_) | ((with_reducible refine below_set ?_ ?_); rotate_left; focus (first | (simp; done) | (simp; omega)))))) (some ⟨_, 0, none⟩) 1 1 [.int .i64 s] rfl (src_one _ _ _) (int_one _) (by unfold maxLen; omega) (by omega) (by have := hBq.size; simp; omega) ?_; intro v1 w1 hown1 hg1; have hB1 : Hid (Below w0.heap.size w0 w1) := Lib.hid (Below.grown (hBr.out.trans ((by have hRf := hRf; have hBq := hBq; repeat (first | (with_reducible assumption) | (with_reducible exact Below.refl _ _) | (with_reducible refine Below.drew ?_) | (with_reducible refine below_drewN' ?_ _) | (with_reducible refine below_al ?_) | ((with_reducible refine below_set ?_ ?_); rotate_left; focus (first | (simp; done) | (simp; omega)))) : Below wr.heap.size wr _).mono hBr.out.size)) hg1 (by have := hBq.size; simp; omega) (fun k hk => (hown.out.lt k hk).1)); have hown2 : Hid (w1.ownsRow w0.heap.size 3 1 v1 (out ++ [s]).length (ints (out ++ [s]))) := Lib.hid (by rw [List.length_append, ← ints_snoc]; exact hown1))
        go_roundw
        case rel => exact ⟨k + 1, out ++ [s], 0, by omega, by go_num, rfl, by simp, by simp [hol], nP, nV, hown2, hB1⟩
        case measure => simp [intOf]; omega
    · have hlz : ¬ (k : Int) < (la : Int) := by omega
      have hd1 := decide_eq_false hlz
      obtain rfl : k = la := by omega
      have HE := less_end hla.out hmn hbw hol hPL.out hV.out
      obtain ⟨D, c, rfl, hD⟩ := owns_days hown.out
      have HR := owns_room hown.out
      have HT := trim_c D c _ out rfl hPL.out HR (by omega) wr hD
      rw [HE] at HT
      have HT := Lib.hid HT
      clear HE hV hPL hown hD HR hol
      go_wp2_with fail
      refine HT.out.mono ?_; rintro e w1 ⟨T, tc, rfl, hT, hb1⟩
      have h2 : Below w0.heap.size w0 w1 := hBr.out.trans (hb1.mono hBr.out.size)
      have gr1 := below_some h2 _ _ _ GR.out
      have gf1 := (h2.frozen (p := ⟨w.heap.size + 1 + 1, 0, none⟩) (by have := HZ0.out; simp; omega)).trans GF.out
      have HTD := Lib.hid hT; clear hT
      have H2 := Lib.hid (below_step (w := w) h2 hB0); clear h2
      have zz1 := hb1.size; have zz2 := HZ0.out
      clear g1 g2 hb1
      go_wp2_with fail
      refine bodyPost_ret (v := .agg #[.slice T (dg (n - m)).length tc]) (by simp [results, Tryd.results97, go_sem, gr1]) rfl ?_
      exact ⟨T, tc, rfl, (HTD.out.set (Or.inl (by omega))).wide (by omega) (by simp), below_set H2.out (by simp; omega)⟩
set_option maxRecDepth 100000 in
set_option maxHeartbeats 8000000 in
theorem bplus_c (A B : Option Addr) (ca cb n m la lb : Nat) (hla : Hid ((dg n).length = la)) (hlb : Hid ((dg m).length = lb)) (ba : la ≤ 10000) (bb : lb ≤ 10000) (ls : Hid ((dg (n + m)).length ≤ 10000)) (w : World) (ha : DIn w A (dg n)) (hb : DIn w B (dg m)) : Calls Tryd.prog 75 #[.agg #[.slice A la ca], .agg #[.slice B lb cb]] w (BigRet (n + m) w) := by
  obtain ⟨i0, hi0, hz0, hs0, hb0⟩ := info_parts infoD
  go_enter Tryd.func75, Tryd.ntmps75
  go_wp2_with fail
  generalize hW : (((w.alloc _).alloc _).alloc _) = w0
  have hB0 : Below w.heap.size w w0 := by rw [← hW]; exact below_al (below_al (below_al (Below.refl _ _)))
  have hz0w : w0.heap.size = w.heap.size + 3 := by rw [← hW]; simp
  have ga : w0.cell? ⟨w.heap.size, 0, none⟩ = some (.slice A la ca) := by rw [← hW]; exact cell_al (cell_al (cell_nu rfl rfl))
  have gb : w0.cell? ⟨w.heap.size + 1, 0, none⟩ = some (.slice B lb cb) := by rw [← hW]; exact cell_al (cell_nu (by simp) rfl)
  have gr : w0.cell? ⟨w.heap.size + 1 + 1, 0, none⟩ = some (.slice none 0 0) := by rw [← hW]; exact cell_nu (by simp) rfl
  have gf : w0.frozen? ⟨w.heap.size + 1 + 1, 0, none⟩ = false := by rw [← hW]; exact blk_free (blk_nu (by simp))
  have HA := Lib.hid (ha.below hB0); have HB := Lib.hid (hb.below hB0); have GA := Lib.hid ga; have GB := Lib.hid gb; have GR := Lib.hid gr; have GF := Lib.hid gf; have HZ0 := Lib.hid hz0w
  clear hW ha hb ga gb gr gf hz0w
  go_loopw [5, 6, 7] (fun v q p wr => ∃ (k : Nat) (out : List Int) (cy : Nat), p = .int .i64 k ∧ q = .int .i64 cy ∧ cy ≤ 2 ∧ out.length = k ∧ Hid (out ++ dg (cy + n / 10000 ^ k + m / 10000 ^ k) = dg (n + m)) ∧ Hid (wr.ownsRow w0.heap.size 3 1 v out.length (ints out)) ∧ Hid (Below w0.heap.size w0 wr)) (fun _ _ p _ => 20000 - (intOf p).toNat)
  case atStart => exact ⟨0, [], 0, rfl, rfl, by omega, rfl, Lib.hid (by simp), Lib.hid (World.ownsRow_nil _ _ _ _), Lib.hid (Below.refl _ _)⟩
  case round =>
    obtain ⟨k, out, cy, rfl, rfl, hcy, hol, hO, hown, hBr⟩ := hrel
    have hzr := hBr.out.size
    have hk : k ≤ 10000 := by have h1 := congrArg List.length hO.out; rw [List.length_append] at h1; have := ls.out; omega
    have g1 := below_some hBr.out _ _ _ GA.out
    have g2 := below_some hBr.out _ _ _ GB.out
    have la1 := dg_len n k; rw [hla.out] at la1; have lb1 := dg_len m k; rw [hlb.out] at lb1
    by_cases ha1 : k < la
    · have da : decide ((k : Int) < (la : Int)) = true := decide_eq_true (by omega)
      have daz :  (k : Int) < (la : Int) := by omega
      have hpos : 0 < cy + n / 10000 ^ k + m / 10000 ^ k := by (have h := la1.1 (by omega); revert h; generalize n / 10000 ^ k = u; generalize m / 10000 ^ k = v; intro h; omega)
      have HX : ∃ x, pt n k = x := ⟨_, rfl⟩
      have HY : ∃ y, pt m k = y := ⟨_, rfl⟩
      obtain ⟨x, hx⟩ := HX
      obtain ⟨y, hy⟩ := HY
      have xb := pt_bd n k; have yb := pt_bd m k
      rw [hx] at xb; rw [hy] at yb
      have HX := Lib.hid hx; have HY := Lib.hid hy; clear hx hy
      obtain ⟨sN, hsN⟩ : ∃ sN : Nat, sN = cy + n / 10000 ^ k % 10000 + m / 10000 ^ k % 10000 := ⟨_, rfl⟩
      have hsI : x + y + (cy : Int) = (sN : Int) := by (have h1 := HX.out; have h2 := HY.out; unfold pt at h1 h2; omega)
      have nO := Lib.hid (plus_step hO.out hpos hsN)
      clear hsN hpos la1 lb1
      have s1 : IntKind.i64.wrap (x + y) = x + y := IntWalk.i64_in _ (by omega)
      have s2 : IntKind.i64.wrap (x + y + (cy : Int)) = (sN : Int) := by rw [hsI]; exact IntWalk.i64_in _ (by omega)
      have s4 : IntKind.i64.wrap ((k : Int) + 1) = (k : Int) + 1 := IntWalk.i64_in _ (by omega)
      have hr : (sN : Int).tmod 10000 = ((sN % 10000 : Nat) : Int) := by rw [Int.tmod_eq_emod_of_nonneg (by omega)]; omega
      have hq : (sN : Int).tdiv 10000 = ((sN / 10000 : Nat) : Int) := by rw [Int.tdiv_eq_ediv_of_nonneg (by omega)]; omega
      have hq2 : sN / 10000 ≤ 2 := by omega
      have HSI := Lib.hid hsI; clear hsI
      generalize sN % 10000 = rr at *
      generalize sN / 10000 = qq at *
      have HA2 := Lib.hid (HA.out.below hBr.out); have HB2 := Lib.hid (HB.out.below hBr.out)
      go_wp2_with fail
      have hRf : Below wr.heap.size wr wr := Below.refl _ _
      have HS : Hid (∀ W, Below wr.heap.size wr W → (fun W' => Below wr.heap.size wr W' ∧ W'.cell? ⟨w.heap.size, 0, none⟩ = some (.slice A la ca) ∧ W'.cell? ⟨w.heap.size + 1, 0, none⟩ = some (.slice B lb cb)) W) := Lib.hid (fun W h => ⟨h, below_some h _ _ _ g1, below_some h _ _ _ g2⟩)
      go_region_held3 (fun W' => Below wr.heap.size wr W' ∧ W'.cell? ⟨w.heap.size, 0, none⟩ = some (.slice A la ca) ∧ W'.cell? ⟨w.heap.size + 1, 0, none⟩ = some (.slice B lb cb)) ((refine HS.out _ ?_; repeat (first | (with_reducible assumption) | (with_reducible exact Below.refl _ _) | (with_reducible refine Below.drew ?_) | (with_reducible refine below_drewN' ?_ _) | (with_reducible refine below_al ?_) | ((with_reducible refine below_set ?_ ?_); rotate_left; focus (first | (simp; done) | (simp; omega)))))) (first | (go_at_call_of 87 (Value.agg #[.slice A la ca]); refine (bpart_c A ca n k la x hla HX (by omega) _ (HA2.out.below (by repeat (first | (with_reducible assumption) | (with_reducible exact Below.refl _ _) | (with_reducible refine Below.drew ?_) | (with_reducible refine below_drewN' ?_ _) | (with_reducible refine below_al ?_) | ((with_reducible refine below_set ?_ ?_); rotate_left; focus (first | (simp; done) | (simp; omega))))))).mono ?_; rintro e wq ⟨rfl, hbq⟩; have hBq := below_step (w := wr) hbq (by repeat (first | (with_reducible assumption) | (with_reducible exact Below.refl _ _) | (with_reducible refine Below.drew ?_) | (with_reducible refine below_drewN' ?_ _) | (with_reducible refine below_al ?_) | ((with_reducible refine below_set ?_ ?_); rotate_left; focus (first | (simp; done) | (simp; omega))))); clear hbq) | (go_at_call_of 87 (Value.agg #[.slice B lb cb]); refine (bpart_c B cb m k lb y hlb HY (by omega) _ (HB2.out.below (by repeat (first | (with_reducible assumption) | (with_reducible exact Below.refl _ _) | (with_reducible refine Below.drew ?_) | (with_reducible refine below_drewN' ?_ _) | (with_reducible refine below_al ?_) | ((with_reducible refine below_set ?_ ?_); rotate_left; focus (first | (simp; done) | (simp; omega))))))).mono ?_; rintro e wq ⟨rfl, hbq⟩; have hBq := below_step (w := wr) hbq (by repeat (first | (with_reducible assumption) | (with_reducible exact Below.refl _ _) | (with_reducible refine Below.drew ?_) | (with_reducible refine below_drewN' ?_ _) | (with_reducible refine below_al ?_) | ((with_reducible refine below_set ?_ ?_); rotate_left; focus (first | (simp; done) | (simp; omega))))); clear hbq))
      clear HS
      go_wp2_with (at_builtin; refine wpList_app_in rfl (.tmp 36) (.tmp 39) _ rfl w0.heap.size 3 i0 _ 1 8 Tryd.underlying100 hi0 hz0 hs0 hb0 (by rfl) (by decide) _ out.length (ints out) rfl (own_blk hown.out (by have hRf := hRf; have hBq := hBq; repeat (first | (with_reducible assumption) | (with_reducible exact Below.refl _ _) | (with_reducible refine Below.drew ?_) | (with_reducible refine below_drewN' ?_ _) | (with_reducible refine below_al ?_) | ((with_reducible refine below_set ?_ ?_); rotate_left; focus (first | (simp; done) | (simp; omega)))))) (some ⟨_, 0, none⟩) 1 1 [.int .i64 (rr : Int)] rfl (src_one _ _ _) (int_one _) (by unfold maxLen; omega) (by omega) (by have := hBq.size; simp; omega) ?_; intro v1 w1 hown1 hg1; have hB1 : Hid (Below w0.heap.size w0 w1) := Lib.hid (Below.grown (hBr.out.trans ((by have hRf := hRf; have hBq := hBq; repeat (first | (with_reducible assumption) | (with_reducible exact Below.refl _ _) | (with_reducible refine Below.drew ?_) | (with_reducible refine below_drewN' ?_ _) | (with_reducible refine below_al ?_) | ((with_reducible refine below_set ?_ ?_); rotate_left; focus (first | (simp; done) | (simp; omega)))) : Below wr.heap.size wr _).mono hBr.out.size)) hg1 (by have := hBq.size; simp; omega) (fun k hk => (hown.out.lt k hk).1)); have hown2 : Hid (w1.ownsRow w0.heap.size 3 1 v1 (out ++ [(rr : Int)]).length (ints (out ++ [(rr : Int)]))) := Lib.hid (by rw [List.length_append, ← ints_snoc]; exact hown1))
      go_roundw
      case rel => exact ⟨k + 1, out ++ [(rr : Int)], qq, by go_num, rfl, hq2, by simp [hol], nO, hown2, hB1⟩
      case measure => simp [intOf]; omega
    · by_cases hb1 : k < lb
      · have da : decide ((k : Int) < (la : Int)) = false := decide_eq_false (by omega)
        have daz : ¬ (k : Int) < (la : Int) := by omega
        have db : decide ((k : Int) < (lb : Int)) = true := decide_eq_true (by omega)
        have dbz :  (k : Int) < (lb : Int) := by omega
        have hpos : 0 < cy + n / 10000 ^ k + m / 10000 ^ k := by (have h := lb1.1 (by omega); revert h; generalize n / 10000 ^ k = u; generalize m / 10000 ^ k = v; intro h; omega)
        have HX : ∃ x, pt n k = x := ⟨_, rfl⟩
        have HY : ∃ y, pt m k = y := ⟨_, rfl⟩
        obtain ⟨x, hx⟩ := HX
        obtain ⟨y, hy⟩ := HY
        have xb := pt_bd n k; have yb := pt_bd m k
        rw [hx] at xb; rw [hy] at yb
        have HX := Lib.hid hx; have HY := Lib.hid hy; clear hx hy
        obtain ⟨sN, hsN⟩ : ∃ sN : Nat, sN = cy + n / 10000 ^ k % 10000 + m / 10000 ^ k % 10000 := ⟨_, rfl⟩
        have hsI : x + y + (cy : Int) = (sN : Int) := by (have h1 := HX.out; have h2 := HY.out; unfold pt at h1 h2; omega)
        have nO := Lib.hid (plus_step hO.out hpos hsN)
        clear hsN hpos la1 lb1
        have s1 : IntKind.i64.wrap (x + y) = x + y := IntWalk.i64_in _ (by omega)
        have s2 : IntKind.i64.wrap (x + y + (cy : Int)) = (sN : Int) := by rw [hsI]; exact IntWalk.i64_in _ (by omega)
        have s4 : IntKind.i64.wrap ((k : Int) + 1) = (k : Int) + 1 := IntWalk.i64_in _ (by omega)
        have hr : (sN : Int).tmod 10000 = ((sN % 10000 : Nat) : Int) := by rw [Int.tmod_eq_emod_of_nonneg (by omega)]; omega
        have hq : (sN : Int).tdiv 10000 = ((sN / 10000 : Nat) : Int) := by rw [Int.tdiv_eq_ediv_of_nonneg (by omega)]; omega
        have hq2 : sN / 10000 ≤ 2 := by omega
        have HSI := Lib.hid hsI; clear hsI
        generalize sN % 10000 = rr at *
        generalize sN / 10000 = qq at *
        have HA2 := Lib.hid (HA.out.below hBr.out); have HB2 := Lib.hid (HB.out.below hBr.out)
        go_wp2_with fail
        have hRf : Below wr.heap.size wr wr := Below.refl _ _
        have HS : Hid (∀ W, Below wr.heap.size wr W → (fun W' => Below wr.heap.size wr W' ∧ W'.cell? ⟨w.heap.size, 0, none⟩ = some (.slice A la ca) ∧ W'.cell? ⟨w.heap.size + 1, 0, none⟩ = some (.slice B lb cb)) W) := Lib.hid (fun W h => ⟨h, below_some h _ _ _ g1, below_some h _ _ _ g2⟩)
        go_region_held3 (fun W' => Below wr.heap.size wr W' ∧ W'.cell? ⟨w.heap.size, 0, none⟩ = some (.slice A la ca) ∧ W'.cell? ⟨w.heap.size + 1, 0, none⟩ = some (.slice B lb cb)) ((refine HS.out _ ?_; repeat (first | (with_reducible assumption) | (with_reducible exact Below.refl _ _) | (with_reducible refine Below.drew ?_) | (with_reducible refine below_drewN' ?_ _) | (with_reducible refine below_al ?_) | ((with_reducible refine below_set ?_ ?_); rotate_left; focus (first | (simp; done) | (simp; omega)))))) (first | (go_at_call_of 87 (Value.agg #[.slice A la ca]); refine (bpart_c A ca n k la x hla HX (by omega) _ (HA2.out.below (by repeat (first | (with_reducible assumption) | (with_reducible exact Below.refl _ _) | (with_reducible refine Below.drew ?_) | (with_reducible refine below_drewN' ?_ _) | (with_reducible refine below_al ?_) | ((with_reducible refine below_set ?_ ?_); rotate_left; focus (first | (simp; done) | (simp; omega))))))).mono ?_; rintro e wq ⟨rfl, hbq⟩; have hBq := below_step (w := wr) hbq (by repeat (first | (with_reducible assumption) | (with_reducible exact Below.refl _ _) | (with_reducible refine Below.drew ?_) | (with_reducible refine below_drewN' ?_ _) | (with_reducible refine below_al ?_) | ((with_reducible refine below_set ?_ ?_); rotate_left; focus (first | (simp; done) | (simp; omega))))); clear hbq) | (go_at_call_of 87 (Value.agg #[.slice B lb cb]); refine (bpart_c B cb m k lb y hlb HY (by omega) _ (HB2.out.below (by repeat (first | (with_reducible assumption) | (with_reducible exact Below.refl _ _) | (with_reducible refine Below.drew ?_) | (with_reducible refine below_drewN' ?_ _) | (with_reducible refine below_al ?_) | ((with_reducible refine below_set ?_ ?_); rotate_left; focus (first | (simp; done) | (simp; omega))))))).mono ?_; rintro e wq ⟨rfl, hbq⟩; have hBq := below_step (w := wr) hbq (by repeat (first | (with_reducible assumption) | (with_reducible exact Below.refl _ _) | (with_reducible refine Below.drew ?_) | (with_reducible refine below_drewN' ?_ _) | (with_reducible refine below_al ?_) | ((with_reducible refine below_set ?_ ?_); rotate_left; focus (first | (simp; done) | (simp; omega))))); clear hbq))
        clear HS
        go_wp2_with (at_builtin; refine wpList_app_in rfl (.tmp 36) (.tmp 39) _ rfl w0.heap.size 3 i0 _ 1 8 Tryd.underlying100 hi0 hz0 hs0 hb0 (by rfl) (by decide) _ out.length (ints out) rfl (own_blk hown.out (by have hRf := hRf; have hBq := hBq; repeat (first | (with_reducible assumption) | (with_reducible exact Below.refl _ _) | (with_reducible refine Below.drew ?_) | (with_reducible refine below_drewN' ?_ _) | (with_reducible refine below_al ?_) | ((with_reducible refine below_set ?_ ?_); rotate_left; focus (first | (simp; done) | (simp; omega)))))) (some ⟨_, 0, none⟩) 1 1 [.int .i64 (rr : Int)] rfl (src_one _ _ _) (int_one _) (by unfold maxLen; omega) (by omega) (by have := hBq.size; simp; omega) ?_; intro v1 w1 hown1 hg1; have hB1 : Hid (Below w0.heap.size w0 w1) := Lib.hid (Below.grown (hBr.out.trans ((by have hRf := hRf; have hBq := hBq; repeat (first | (with_reducible assumption) | (with_reducible exact Below.refl _ _) | (with_reducible refine Below.drew ?_) | (with_reducible refine below_drewN' ?_ _) | (with_reducible refine below_al ?_) | ((with_reducible refine below_set ?_ ?_); rotate_left; focus (first | (simp; done) | (simp; omega)))) : Below wr.heap.size wr _).mono hBr.out.size)) hg1 (by have := hBq.size; simp; omega) (fun k hk => (hown.out.lt k hk).1)); have hown2 : Hid (w1.ownsRow w0.heap.size 3 1 v1 (out ++ [(rr : Int)]).length (ints (out ++ [(rr : Int)]))) := Lib.hid (by rw [List.length_append, ← ints_snoc]; exact hown1))
        go_roundw
        case rel => exact ⟨k + 1, out ++ [(rr : Int)], qq, by go_num, rfl, hq2, by simp [hol], nO, hown2, hB1⟩
        case measure => simp [intOf]; omega
      · by_cases hc1 : 0 < cy
        · have da : decide ((k : Int) < (la : Int)) = false := decide_eq_false (by omega)
          have daz : ¬ (k : Int) < (la : Int) := by omega
          have db : decide ((k : Int) < (lb : Int)) = false := decide_eq_false (by omega)
          have dbz : ¬ (k : Int) < (lb : Int) := by omega
          have dc : decide ((0 : Int) < (cy : Int)) = true := decide_eq_true (by omega)
          have hpos : 0 < cy + n / 10000 ^ k + m / 10000 ^ k := by (generalize n / 10000 ^ k = u; generalize m / 10000 ^ k = v; omega)
          have HX : ∃ x, pt n k = x := ⟨_, rfl⟩
          have HY : ∃ y, pt m k = y := ⟨_, rfl⟩
          obtain ⟨x, hx⟩ := HX
          obtain ⟨y, hy⟩ := HY
          have xb := pt_bd n k; have yb := pt_bd m k
          rw [hx] at xb; rw [hy] at yb
          have HX := Lib.hid hx; have HY := Lib.hid hy; clear hx hy
          obtain ⟨sN, hsN⟩ : ∃ sN : Nat, sN = cy + n / 10000 ^ k % 10000 + m / 10000 ^ k % 10000 := ⟨_, rfl⟩
          have hsI : x + y + (cy : Int) = (sN : Int) := by (have h1 := HX.out; have h2 := HY.out; unfold pt at h1 h2; omega)
          have nO := Lib.hid (plus_step hO.out hpos hsN)
          clear hsN hpos la1 lb1
          have s1 : IntKind.i64.wrap (x + y) = x + y := IntWalk.i64_in _ (by omega)
          have s2 : IntKind.i64.wrap (x + y + (cy : Int)) = (sN : Int) := by rw [hsI]; exact IntWalk.i64_in _ (by omega)
          have s4 : IntKind.i64.wrap ((k : Int) + 1) = (k : Int) + 1 := IntWalk.i64_in _ (by omega)
          have hr : (sN : Int).tmod 10000 = ((sN % 10000 : Nat) : Int) := by rw [Int.tmod_eq_emod_of_nonneg (by omega)]; omega
          have hq : (sN : Int).tdiv 10000 = ((sN / 10000 : Nat) : Int) := by rw [Int.tdiv_eq_ediv_of_nonneg (by omega)]; omega
          have hq2 : sN / 10000 ≤ 2 := by omega
          have HSI := Lib.hid hsI; clear hsI
          generalize sN % 10000 = rr at *
          generalize sN / 10000 = qq at *
          have HA2 := Lib.hid (HA.out.below hBr.out); have HB2 := Lib.hid (HB.out.below hBr.out)
          go_wp2_with fail
          have hRf : Below wr.heap.size wr wr := Below.refl _ _
          have HS : Hid (∀ W, Below wr.heap.size wr W → (fun W' => Below wr.heap.size wr W' ∧ W'.cell? ⟨w.heap.size, 0, none⟩ = some (.slice A la ca) ∧ W'.cell? ⟨w.heap.size + 1, 0, none⟩ = some (.slice B lb cb)) W) := Lib.hid (fun W h => ⟨h, below_some h _ _ _ g1, below_some h _ _ _ g2⟩)
          go_region_held3 (fun W' => Below wr.heap.size wr W' ∧ W'.cell? ⟨w.heap.size, 0, none⟩ = some (.slice A la ca) ∧ W'.cell? ⟨w.heap.size + 1, 0, none⟩ = some (.slice B lb cb)) ((refine HS.out _ ?_; repeat (first | (with_reducible assumption) | (with_reducible exact Below.refl _ _) | (with_reducible refine Below.drew ?_) | (with_reducible refine below_drewN' ?_ _) | (with_reducible refine below_al ?_) | ((with_reducible refine below_set ?_ ?_); rotate_left; focus (first | (simp; done) | (simp; omega)))))) (first | (go_at_call_of 87 (Value.agg #[.slice A la ca]); refine (bpart_c A ca n k la x hla HX (by omega) _ (HA2.out.below (by repeat (first | (with_reducible assumption) | (with_reducible exact Below.refl _ _) | (with_reducible refine Below.drew ?_) | (with_reducible refine below_drewN' ?_ _) | (with_reducible refine below_al ?_) | ((with_reducible refine below_set ?_ ?_); rotate_left; focus (first | (simp; done) | (simp; omega))))))).mono ?_; rintro e wq ⟨rfl, hbq⟩; have hBq := below_step (w := wr) hbq (by repeat (first | (with_reducible assumption) | (with_reducible exact Below.refl _ _) | (with_reducible refine Below.drew ?_) | (with_reducible refine below_drewN' ?_ _) | (with_reducible refine below_al ?_) | ((with_reducible refine below_set ?_ ?_); rotate_left; focus (first | (simp; done) | (simp; omega))))); clear hbq) | (go_at_call_of 87 (Value.agg #[.slice B lb cb]); refine (bpart_c B cb m k lb y hlb HY (by omega) _ (HB2.out.below (by repeat (first | (with_reducible assumption) | (with_reducible exact Below.refl _ _) | (with_reducible refine Below.drew ?_) | (with_reducible refine below_drewN' ?_ _) | (with_reducible refine below_al ?_) | ((with_reducible refine below_set ?_ ?_); rotate_left; focus (first | (simp; done) | (simp; omega))))))).mono ?_; rintro e wq ⟨rfl, hbq⟩; have hBq := below_step (w := wr) hbq (by repeat (first | (with_reducible assumption) | (with_reducible exact Below.refl _ _) | (with_reducible refine Below.drew ?_) | (with_reducible refine below_drewN' ?_ _) | (with_reducible refine below_al ?_) | ((with_reducible refine below_set ?_ ?_); rotate_left; focus (first | (simp; done) | (simp; omega))))); clear hbq))
          clear HS
          go_wp2_with (at_builtin; refine wpList_app_in rfl (.tmp 36) (.tmp 39) _ rfl w0.heap.size 3 i0 _ 1 8 Tryd.underlying100 hi0 hz0 hs0 hb0 (by rfl) (by decide) _ out.length (ints out) rfl (own_blk hown.out (by have hRf := hRf; have hBq := hBq; repeat (first | (with_reducible assumption) | (with_reducible exact Below.refl _ _) | (with_reducible refine Below.drew ?_) | (with_reducible refine below_drewN' ?_ _) | (with_reducible refine below_al ?_) | ((with_reducible refine below_set ?_ ?_); rotate_left; focus (first | (simp; done) | (simp; omega)))))) (some ⟨_, 0, none⟩) 1 1 [.int .i64 (rr : Int)] rfl (src_one _ _ _) (int_one _) (by unfold maxLen; omega) (by omega) (by have := hBq.size; simp; omega) ?_; intro v1 w1 hown1 hg1; have hB1 : Hid (Below w0.heap.size w0 w1) := Lib.hid (Below.grown (hBr.out.trans ((by have hRf := hRf; have hBq := hBq; repeat (first | (with_reducible assumption) | (with_reducible exact Below.refl _ _) | (with_reducible refine Below.drew ?_) | (with_reducible refine below_drewN' ?_ _) | (with_reducible refine below_al ?_) | ((with_reducible refine below_set ?_ ?_); rotate_left; focus (first | (simp; done) | (simp; omega)))) : Below wr.heap.size wr _).mono hBr.out.size)) hg1 (by have := hBq.size; simp; omega) (fun k hk => (hown.out.lt k hk).1)); have hown2 : Hid (w1.ownsRow w0.heap.size 3 1 v1 (out ++ [(rr : Int)]).length (ints (out ++ [(rr : Int)]))) := Lib.hid (by rw [List.length_append, ← ints_snoc]; exact hown1))
          go_roundw
          case rel => exact ⟨k + 1, out ++ [(rr : Int)], qq, by go_num, rfl, hq2, by simp [hol], nO, hown2, hB1⟩
          case measure => simp [intOf]; omega
        · have da : decide ((k : Int) < (la : Int)) = false := decide_eq_false (by omega)
          have daz : ¬ (k : Int) < (la : Int) := by omega
          have db : decide ((k : Int) < (lb : Int)) = false := decide_eq_false (by omega)
          have dbz : ¬ (k : Int) < (lb : Int) := by omega
          have dc : decide ((0 : Int) < (cy : Int)) = false := decide_eq_false (by omega)
          have hO2 : out = dg (n + m) := by (have h := hO.out; have z1 : n / 10000 ^ k = 0 := Nat.eq_zero_of_not_pos (fun hh => by have := la1.2 hh; omega); have z2 : m / 10000 ^ k = 0 := Nat.eq_zero_of_not_pos (fun hh => by have := lb1.2 hh; omega); rw [z1, z2, show cy = 0 by omega, dg_zero, List.append_nil] at h; exact h)
          clear hO la1 lb1 hol
          obtain ⟨D, c, rfl, hD⟩ := owns_days hown.out
          have HD := Lib.hid (hD.bt (owns_base hown.out)); clear hD
          have gr1 := below_some hBr.out _ _ _ GR.out
          have gf1 := (hBr.out.frozen (p := ⟨w.heap.size + 1 + 1, 0, none⟩) (by have := HZ0.out; simp; omega)).trans GF.out
          have H2 := Lib.hid (below_step (w := w) hBr.out hB0)
          have zz2 := HZ0.out
          rw [hO2] at HD
          have HO2 := Lib.hid hO2; clear hO2
          go_wp2_with fail
          refine bodyPost_ret (v := .agg #[.slice D out.length c]) (by simp [results, Tryd.results75, go_sem, gr1]) rfl ?_
          exact ⟨D, c, by rw [HO2.out], (HD.out.set (Or.inl (by omega))).wide (by omega) (by simp), below_set H2.out (by simp; omega)⟩
end Go.Proofs.YtjcjchapfiokeaaDoor
