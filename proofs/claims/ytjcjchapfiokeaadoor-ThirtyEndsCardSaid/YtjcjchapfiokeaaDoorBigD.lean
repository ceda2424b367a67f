/- Numbers of any size, the document's: a number from a whole one, and the product. Conditions: sizes far below the machine's. -/
import Derived.Test.YtjcjchapfiokeaaDoorBigC
import Derived.Laws.OwnMore
import Derived.Deep.Cut
namespace Go.Proofs.YtjcjchapfiokeaaDoor
open Go.RowKit
set_option linter.unusedVariables false
set_option linter.unusedSimpArgs false
set_option maxRecDepth 100000 in
set_option maxHeartbeats 4000000 in
theorem from_c (n : Nat) (hn : n < 9223372036854775808) (w : World) : Calls Tryd.prog 70 #[.int .i64 (n : Int)] w (BigRet n w) := by
  have z1 : IntKind.u64.wrap (n : Int) = (n : Int) := IntWalk.u64_in _ (by omega)
  go_enter Tryd.func70, Tryd.ntmps70
  go_wp2_with fail
  generalize hW : (w.alloc _) = w0
  have hB0 : Below w.heap.size w w0 := by rw [← hW]; exact below_al (Below.refl _ _)
  have hz0w : w0.heap.size = w.heap.size + 1 := by rw [← hW]; simp
  have gr : w0.cell? ⟨w.heap.size, 0, none⟩ = some (.slice none 0 0) := by rw [← hW]; exact cell_nu rfl rfl
  have gf : w0.frozen? ⟨w.heap.size, 0, none⟩ = false := by rw [← hW]; exact blk_free (blk_nu rfl)
  clear hW
  refine (fromU_c n (by omega) w0).mono ?_; rintro e w1 ⟨T, tc, rfl, hT, hb1⟩
  have gr1 := below_some hb1 _ _ _ gr
  have gf1 := (hb1.frozen (p := ⟨w.heap.size, 0, none⟩) (by simp; omega)).trans gf
  have HTD := Lib.hid hT; have H2 := Lib.hid (below_step (w := w) hb1 hB0); have zz1 := hb1.size; have HZ := Lib.hid hz0w
  clear hT hb1 gr gf hz0w
  go_wp2_with fail
  refine bodyPost_ret (v := .agg #[.slice T (dg n).length tc]) (by simp [results, Tryd.results70, go_sem, gr1]) rfl ?_
  exact ⟨T, tc, rfl, (HTD.out.set (Or.inl (by have := HZ.out; omega))).wide (by have := HZ.out; omega) (by simp), below_set H2.out (by simp)⟩
/-! A row of noughts that is made, and stored into. -/
theorem mk_c (N : Nat) (hN : N ≤ 1000000) (W : World) : (Instr.makeSlice 100 (.int .i64 (N : Int)) (.int .i64 (N : Int))).run Tryd.prog W = .ok (.slice (some ⟨W.heap.size, 0, none⟩) N N) (W.alloc (.cells (ints (List.replicate N 0)).toArray 3)) := by
  obtain ⟨i0, hi0, hz0, hs0, hb0⟩ := info_parts infoD
  rw [run_makeSlice W 100 3 i0 _ Tryd.underlying100 hi0 hz0 .i64 .i64 N N (by omega) (Int.le_refl _) (by rw [hs0]; omega) (by rw [hb0]; omega) (by omega)]
  have e : madeCells (Value.int .i64 0).cells (((N : Int)).toNat * i0.size) = (ints (List.replicate N 0)).toArray := by
    apply Array.toList_inj.1
    rw [hs0]
    show (madeCells #[.int .i64 0] _).toList = _
    rw [toList_madeCells_one]
    simp [ints]
  rw [e]; simp
theorem ints_set (L : List Int) (k : Nat) (x : Int) : (ints L).toArray.setIfInBounds k (.int .i64 x) = (ints (L.set k x)).toArray := by
  simp [ints, List.map_set]
theorem ints_cell {W : World} {g : Nat} {L : List Int} {T : TypeId} (h : W.heap[g]? = some (.cells (ints L).toArray T (0, 0))) (k : Nat) (hk : k < L.length) : W.cell? ⟨g, k, none⟩ = some (.int .i64 (L.getD k 0)) :=
  blk_cell h (by rw [List.getElem?_toArray]; exact ints_at L k hk)
theorem prod_alg (v P cy a M0 M1 y l s q r V : Int) (h : v + P * (cy + a * M0) = V) (hM : M0 = 10000 * M1 + y) (hs : s = l + a * y + cy) (hq : s = 10000 * q + r) : v + P * (r - l) + P * 10000 * (q + a * M1) = V := by
  subst hM h
  have : r = l + a * y + cy - 10000 * q := by omega
  subst this
  grind
/-- So far in a row: the first so many parts of the one times the other, and what is carried. -/
structure PI (n m k j lb NN : Nat) (L : List Int) (cy : Int) : Prop where
  len : L.length = NN
  prt : PartL L
  val : vl L + 10000 ^ (k + j) * (cy + pt n k * ((m / 10000 ^ j : Nat) : Int)) = ((n % 10000 ^ k : Nat) : Int) * m + 10000 ^ k * pt n k * m
  zer : ∀ q, k + lb ≤ q → k + j ≤ q → L.getD q 0 = 0
  fin : j ≤ lb ∨ (j = lb + 1 ∧ cy = 0)
  c1 : 0 ≤ cy
  c2 : cy ≤ 9999
theorem getD_set (L : List Int) (k q : Nat) (x : Int) (hk : k < L.length) : (L.set k x).getD q 0 = if k = q then x else L.getD q 0 := by
  rw [List.getD_eq_getElem?_getD, List.getD_eq_getElem?_getD, List.getElem?_set]
  by_cases e : k = q
  · subst e; simp [hk]
  · simp [e]
theorem PI.step {n m k j lb NN : Nat} {L : List Int} {cy s q r : Int} (h : PI n m k j lb NN L cy) (hlb : (dg m).length = lb) (hk : k + j < NN) (hgo : j < lb ∨ 0 < cy) (hs : s = L.getD (k + j) 0 + pt n k * pt m j + cy) (hq : s = 10000 * q + r) (r1 : 0 ≤ r) (r2 : r < 10000) (q1 : 0 ≤ q) (q2 : q ≤ 9999) : PI n m k (j + 1) lb NN (L.set (k + j) r) q := by
  refine ⟨by rw [List.length_set]; exact h.len, parts_set h.prt _ _ ⟨r1, r2⟩, ?_, fun p h1 h2 => ?_, ?_, q1, q2⟩
  · rw [vl_set L (k + j) r (by rw [h.len]; exact hk)]
    have := prod_alg (vl L) (10000 ^ (k + j)) cy (pt n k) _ ((m / 10000 ^ (j + 1) : Nat) : Int) (pt m j) (L.getD (k + j) 0) s q r _ h.val (part_step m j) hs hq
    rw [show k + (j + 1) = k + j + 1 from rfl, Int.pow_succ]; exact this
  · rw [getD_set L (k + j) p r (by rw [h.len]; exact hk), if_neg (by omega)]
    exact h.zer p h1 (by omega)
  · rcases h.fin with hf | ⟨hf, hc⟩
    · by_cases e : j = lb
      · right
        subst e
        have h0 : L.getD (k + j) 0 = 0 := h.zer _ (Nat.le_refl _) (Nat.le_refl _)
        have hy : pt m j = 0 := pt_high (by omega)
        have := h.c2
        refine ⟨rfl, ?_⟩
        rw [h0, hy] at hs
        simp at hs
        omega
      · left; omega
    · exfalso; omega
/-- Between the rounds: the first so many parts of the one times the other. -/
structure PO (n m k lb NN : Nat) (L : List Int) : Prop where
  len : L.length = NN
  prt : PartL L
  val : vl L = ((n % 10000 ^ k : Nat) : Int) * m
  zer : ∀ q, k + lb ≤ q → L.getD q 0 = 0
theorem PO.start (n m lb NN : Nat) : PO n m 0 lb NN (List.replicate NN 0) :=
  ⟨by simp, fun x hx => by rw [(List.mem_replicate.1 hx).2]; omega, by rw [vl_zeros _ (fun x hx => (List.mem_replicate.1 hx).2)]; simp [Nat.mod_one], fun q _ => by
    rw [List.getD_eq_getElem?_getD, List.getElem?_replicate]; split <;> rfl⟩
theorem PO.inn {n m k lb NN : Nat} {L : List Int} (h : PO n m k lb NN L) : PI n m k 0 lb NN L 0 :=
  ⟨h.len, h.prt, by rw [h.val]; simp; grind, fun q h1 _ => h.zer q h1, Or.inl (Nat.zero_le _), Int.le_refl _, by decide⟩
theorem PI.out {n m k j lb NN : Nat} {L : List Int} {cy : Int} (h : PI n m k j lb NN L cy) (hlb : (dg m).length = lb) (hj : lb ≤ j) (hc : cy = 0) : PO n m (k + 1) lb NN L := by
  refine ⟨h.len, h.prt, ?_, fun q h1 => h.zer q (by omega) (by rcases h.fin with h | ⟨h, _⟩ <;> omega)⟩
  have hv := h.val
  have hz : m / 10000 ^ j = 0 := dg_high (by omega)
  have e0 : (0 : Int) + pt n k * ((0 : Nat) : Int) = 0 := by rw [Int.zero_add]; exact Int.mul_zero _
  rw [hz, hc, e0, Int.mul_zero, Int.add_zero] at hv
  rw [hv, Nat.mod_pow_succ, Int.natCast_add, Int.natCast_mul, Int.natCast_pow, Int.add_mul]
  rfl
set_option maxRecDepth 100000 in
set_option maxHeartbeats 8000000 in
theorem bprod_at (ba oa : Nat) (B : Option Addr) (ca cb n m la lb : Nat) (hla : Hid ((dg n).length = la)) (hlb : Hid ((dg m).length = lb)) (bla : la ≤ 10000) (blb : lb ≤ 10000) (w : World) (hba : ba < w.heap.size) (hca : ∀ j, j < la → w.cell? ⟨ba, oa + j, none⟩ = some (.int .i64 (pt n j))) (hb : DIn w B (dg m)) : Calls Tryd.prog 74 #[.agg #[.slice (some ⟨ba, oa, none⟩) la ca], .agg #[.slice B lb cb]] w (BigRet (n * m) w) := by
  have s1 : IntKind.i64.wrap ((la : Int) + (lb : Int)) = (la : Int) + lb := IntWalk.i64_in _ (by omega)
  have s2 : IntKind.i64.wrap ((la : Int) + (lb : Int) + 1) = ((la + lb + 1 : Nat) : Int) := by rw [IntWalk.i64_in _ (by omega)]; omega
  obtain ⟨NN, hNN⟩ : ∃ NN, la + lb + 1 = NN := ⟨_, rfl⟩
  rw [hNN] at s2
  have HNN := Lib.hid hNN; clear hNN
  have bN : NN ≤ 20001 := by have := HNN.out; omega
  have hmk := mk_c NN (by omega)
  go_enter Tryd.func74, Tryd.ntmps74
  go_upto_region 1 with fail
  generalize hW : (((w.alloc _).alloc _).alloc _) = w0
  have hB0 : Below w.heap.size w w0 := by rw [← hW]; exact below_al (below_al (below_al (Below.refl _ _)))
  have hz0w : w0.heap.size = w.heap.size + 3 := by rw [← hW]; simp
  have ga : w0.cell? ⟨w.heap.size, 0, none⟩ = some (.slice (some ⟨ba, oa, none⟩) la ca) := by rw [← hW]; exact cell_al (cell_al (cell_nu rfl rfl))
  have gb : w0.cell? ⟨w.heap.size + 1, 0, none⟩ = some (.slice B lb cb) := by rw [← hW]; exact cell_al (cell_nu (by simp) rfl)
  have gr : w0.cell? ⟨w.heap.size + 1 + 1, 0, none⟩ = some (.slice none 0 0) := by rw [← hW]; exact cell_nu (by simp) rfl
  have gf : w0.frozen? ⟨w.heap.size + 1 + 1, 0, none⟩ = false := by rw [← hW]; exact blk_free (blk_nu (by simp))
  have HCA : Hid (∀ j, j < la → w0.cell? ⟨ba, oa + j, none⟩ = some (.int .i64 (pt n j))) := Lib.hid (fun j hj => below_some hB0 _ _ _ (hca j hj))
  have HB := Lib.hid (hb.below hB0); have GA := Lib.hid ga; have GB := Lib.hid gb; have GR := Lib.hid gr; have GF := Lib.hid gf; have HZ0 := Lib.hid hz0w
  clear hW hca hb gr gf hz0w
  go_wp2_with fail
  go_loopw [6] (fun p wr => ∃ (k : Nat) (L : List Int), k ≤ la ∧ p = .int .i64 k ∧ Hid (PO n m k lb NN L) ∧ Hid (wr.heap[w0.heap.size]? = some (.cells (ints L).toArray 3 (0, 0))) ∧ Hid (Below w0.heap.size w0 wr)) (fun p _ => la - (intOf p).toNat)
  case atStart => exact ⟨0, _, Nat.zero_le _, rfl, Lib.hid (PO.start n m lb NN), Lib.hid (blk_nu rfl), Lib.hid (below_al (Below.refl _ _))⟩
  case round =>
    obtain ⟨k, L, hk, rfl, hO, hG, hBr⟩ := hrel
    clear ga gb
    have g1 := below_some hBr.out _ _ _ GA.out
    have g2 := below_some hBr.out _ _ _ GB.out
    have hzr := hBr.out.size
    by_cases hlt : k < la
    · have hlz : (k : Int) < (la : Int) := by omega
      have hd1 := decide_eq_true hlz
      have s4 : IntKind.i64.wrap ((k : Int) + 1) = (k : Int) + 1 := IntWalk.i64_in _ (by omega)
      have HX : ∃ x, pt n k = x := ⟨_, rfl⟩
      obtain ⟨x, hx⟩ := HX
      have xb := pt_bd n k; rw [hx] at xb
      have HX := Lib.hid hx; clear hx
      go_wp2_with fail
      go_loopw [7, 8] (fun c q wr => ∃ (j : Nat) (cy : Int) (M : List Int), c = .int .i64 cy ∧ q = .int .i64 j ∧ Hid (PI n m k j lb NN M cy) ∧ Hid (wr.heap[w0.heap.size]? = some (.cells (ints M).toArray 3 (0, 0))) ∧ Hid (Below w0.heap.size w0 wr)) (fun _ q _ => 40000 - (intOf q).toNat)
      case atStart => exact ⟨0, 0, L, rfl, rfl, Lib.hid hO.out.inn, hG, hBr⟩
      case round =>
        obtain ⟨j, cy, M, rfl, rfl, hI, hH, hBv⟩ := hrel
        clear g1 g2
        have g1 := below_some hBv.out _ _ _ GA.out
        have g2 := below_some hBv.out _ _ _ GB.out
        have hzv := hBv.out.size
        have c1 := hI.out.c1; have c2 := hI.out.c2; have jb : j ≤ lb + 1 := by (rcases hI.out.fin with h | h <;> omega)
        by_cases hj : j < lb
        · have dj : decide ((j : Int) < (lb : Int)) = true := decide_eq_true (by omega)
          have djz :  (j : Int) < (lb : Int) := by omega
          have hkj : k + j < NN := by (have h1 := HNN.out; rcases hI.out.fin with h | h <;> omega)
          obtain ⟨q, hq⟩ : ∃ q, k + j = q := ⟨_, rfl⟩
          have hqN : q < NN := by omega
          have hqz : (q : Int) < (NN : Int) := by omega
          have hq0 : (0 : Int) ≤ (q : Int) := by omega
          have sq : IntKind.i64.wrap ((k : Int) + (j : Int)) = (q : Int) := by rw [IntWalk.i64_in _ (by omega)]; omega
          have HY : ∃ y, pt m j = y := ⟨_, rfl⟩
          obtain ⟨y, hy⟩ := HY
          have yb := pt_bd m j; rw [hy] at yb
          have HY := Lib.hid hy; clear hy
          have gq := ints_cell hH.out q (by rw [hI.out.len]; exact hqN)
          have lb1 := parts_at hI.out.prt q
          have HLv : ∃ l, M.getD q 0 = l := ⟨_, rfl⟩
          obtain ⟨l, hl⟩ := HLv
          rw [hl] at gq lb1
          have HLV := Lib.hid hl; clear hl
          have fq : wr.frozen? ⟨w0.heap.size, q, none⟩ = false := blk_free hH.out
          have gx := below_some hBv.out _ _ _ (HCA.out k hlt)
          rw [HX.out] at gx
          have xy1 : 0 ≤ x * y := Int.mul_nonneg xb.1 yb.1
          have xy2 : x * y ≤ 9999 * 9999 := Int.mul_le_mul (by omega) (by omega) yb.1 (by decide)
          obtain ⟨xy, hxy⟩ : ∃ xy, x * y = xy := ⟨_, rfl⟩
          rw [hxy] at xy1 xy2
          have sx : IntKind.i64.wrap (x * y) = xy := by rw [hxy]; exact IntWalk.i64_in _ (by omega)
          have HXY := Lib.hid hxy; clear hxy
          have t1 : IntKind.i64.wrap (l + xy) = l + xy := IntWalk.i64_in _ (by omega)
          obtain ⟨s, hs⟩ : ∃ s, l + xy + cy = s := ⟨_, rfl⟩
          have t2 : IntKind.i64.wrap (l + xy + cy) = s := by rw [hs]; exact IntWalk.i64_in _ (by omega)
          have sb : 0 ≤ s ∧ s ≤ 99999999 := by omega
          have HSv := Lib.hid hs; clear hs
          obtain ⟨r, hr⟩ : ∃ r, s.tmod 10000 = r := ⟨_, rfl⟩
          obtain ⟨u, hu⟩ : ∃ u, s.tdiv 10000 = u := ⟨_, rfl⟩
          have HRU : Hid (s = 10000 * u + r ∧ 0 ≤ r ∧ r < 10000 ∧ 0 ≤ u ∧ u ≤ 9999) := Lib.hid (by rw [← hr, ← hu, Int.tmod_eq_emod_of_nonneg sb.1, Int.tdiv_eq_ediv_of_nonneg sb.1]; omega)
          have su : IntKind.i64.wrap u = u := IntWalk.i64_in _ (by have := HRU.out; omega)
          have nI := Lib.hid (hI.out.step hlb.out hkj (by omega) (s := s) (q := u) (r := r) (by rw [hq, HLV.out, HX.out, HY.out, HXY.out]; exact HSv.out.symm) HRU.out.1 HRU.out.2.1 HRU.out.2.2.1 HRU.out.2.2.2.1 HRU.out.2.2.2.2)
          rw [hq] at nI
          have s5 : IntKind.i64.wrap ((j : Int) + 1) = (j : Int) + 1 := IntWalk.i64_in _ (by omega)
          have HQ := Lib.hid hq; clear hq hkj
          have HB2 := Lib.hid (HB.out.below hBv.out)
          clear hI sb xy1 xy2 lb1
          go_wp2_with fail
          have hRf : Below wr.heap.size wr wr := Below.refl _ _
          have HS : Hid (∀ W, Below wr.heap.size wr W → (fun W' => Below wr.heap.size wr W' ∧ W'.cell? ⟨w.heap.size, 0, none⟩ = some (.slice (some ⟨ba, oa, none⟩) la ca) ∧ W'.cell? ⟨w.heap.size + 1, 0, none⟩ = some (.slice B lb cb) ∧ W'.cell? ⟨w0.heap.size, q, none⟩ = some (.int .i64 l) ∧ W'.cell? ⟨ba, oa + k, none⟩ = some (.int .i64 x)) W) := Lib.hid (fun W h => ⟨h, below_some h _ _ _ g1, below_some h _ _ _ g2, below_some h _ _ _ gq, below_some h _ _ _ gx⟩)
          go_region_held3 (fun W' => Below wr.heap.size wr W' ∧ W'.cell? ⟨w.heap.size, 0, none⟩ = some (.slice (some ⟨ba, oa, none⟩) la ca) ∧ W'.cell? ⟨w.heap.size + 1, 0, none⟩ = some (.slice B lb cb) ∧ W'.cell? ⟨w0.heap.size, q, none⟩ = some (.int .i64 l) ∧ W'.cell? ⟨ba, oa + k, none⟩ = some (.int .i64 x)) ((refine HS.out _ ?_; repeat (first | (with_reducible assumption) | (with_reducible exact Below.refl _ _) | (with_reducible refine Below.drew ?_) | (with_reducible refine below_drewN' ?_ _) | (with_reducible refine below_al ?_) | ((with_reducible refine below_set ?_ ?_); rotate_left; focus (first | (simp; done) | (simp; omega)))))) (first | (go_at_call 87; refine (bpart_c B cb m j lb y hlb HY (by omega) _ (HB2.out.below (by repeat (first | (with_reducible assumption) | (with_reducible exact Below.refl _ _) | (with_reducible refine Below.drew ?_) | (with_reducible refine below_drewN' ?_ _) | (with_reducible refine below_al ?_) | ((with_reducible refine below_set ?_ ?_); rotate_left; focus (first | (simp; done) | (simp; omega))))))).mono ?_; rintro e wq ⟨rfl, hbq⟩; have hBq := below_step (w := wr) hbq (by repeat (first | (with_reducible assumption) | (with_reducible exact Below.refl _ _) | (with_reducible refine Below.drew ?_) | (with_reducible refine below_drewN' ?_ _) | (with_reducible refine below_al ?_) | ((with_reducible refine below_set ?_ ?_); rotate_left; focus (first | (simp; done) | (simp; omega))))); clear hbq))
          have gq2 := below_some hBq _ _ _ gq
          have fq2 : wq.frozen? ⟨w0.heap.size, q, none⟩ = false := blk_free (blk_st hBq hH.out)
          have nG : Hid ((wq.setCell ⟨w0.heap.size, q, none⟩ (.int .i64 r)).heap[w0.heap.size]? = some (.cells (ints (M.set q r)).toArray 3 (0, 0))) := Lib.hid (by rw [← ints_set]; exact blk_set (blk_st hBq hH.out))
          have nB : Hid (Below w0.heap.size w0 (wq.setCell ⟨w0.heap.size, q, none⟩ (.int .i64 r))) := Lib.hid (below_set (hBv.out.trans (hBq.mono hBv.out.size)) (Nat.le_refl _))
          clear HS hBq hRf gq fq gx g1 g2
          go_wp2_with fail
          go_roundw
          case rel => exact ⟨j + 1, u, M.set q r, rfl, by go_num, nI, nG, nB⟩
          case measure => simp [intOf]; omega
        · by_cases hc : 0 < cy
          · have dj : decide ((j : Int) < (lb : Int)) = false := decide_eq_false (by omega)
            have djz : ¬ (j : Int) < (lb : Int) := by omega
            have dc : decide ((0 : Int) < cy) = true := decide_eq_true (by omega)
            have hkj : k + j < NN := by (have h1 := HNN.out; rcases hI.out.fin with h | h <;> omega)
            obtain ⟨q, hq⟩ : ∃ q, k + j = q := ⟨_, rfl⟩
            have hqN : q < NN := by omega
            have hqz : (q : Int) < (NN : Int) := by omega
            have hq0 : (0 : Int) ≤ (q : Int) := by omega
            have sq : IntKind.i64.wrap ((k : Int) + (j : Int)) = (q : Int) := by rw [IntWalk.i64_in _ (by omega)]; omega
            have HY : ∃ y, pt m j = y := ⟨_, rfl⟩
            obtain ⟨y, hy⟩ := HY
            have yb := pt_bd m j; rw [hy] at yb
            have HY := Lib.hid hy; clear hy
            have gq := ints_cell hH.out q (by rw [hI.out.len]; exact hqN)
            have lb1 := parts_at hI.out.prt q
            have HLv : ∃ l, M.getD q 0 = l := ⟨_, rfl⟩
            obtain ⟨l, hl⟩ := HLv
            rw [hl] at gq lb1
            have HLV := Lib.hid hl; clear hl
            have fq : wr.frozen? ⟨w0.heap.size, q, none⟩ = false := blk_free hH.out
            have gx := below_some hBv.out _ _ _ (HCA.out k hlt)
            rw [HX.out] at gx
            have xy1 : 0 ≤ x * y := Int.mul_nonneg xb.1 yb.1
            have xy2 : x * y ≤ 9999 * 9999 := Int.mul_le_mul (by omega) (by omega) yb.1 (by decide)
            obtain ⟨xy, hxy⟩ : ∃ xy, x * y = xy := ⟨_, rfl⟩
            rw [hxy] at xy1 xy2
            have sx : IntKind.i64.wrap (x * y) = xy := by rw [hxy]; exact IntWalk.i64_in _ (by omega)
            have HXY := Lib.hid hxy; clear hxy
            have t1 : IntKind.i64.wrap (l + xy) = l + xy := IntWalk.i64_in _ (by omega)
            obtain ⟨s, hs⟩ : ∃ s, l + xy + cy = s := ⟨_, rfl⟩
            have t2 : IntKind.i64.wrap (l + xy + cy) = s := by rw [hs]; exact IntWalk.i64_in _ (by omega)
            have sb : 0 ≤ s ∧ s ≤ 99999999 := by omega
            have HSv := Lib.hid hs; clear hs
            obtain ⟨r, hr⟩ : ∃ r, s.tmod 10000 = r := ⟨_, rfl⟩
            obtain ⟨u, hu⟩ : ∃ u, s.tdiv 10000 = u := ⟨_, rfl⟩
            have HRU : Hid (s = 10000 * u + r ∧ 0 ≤ r ∧ r < 10000 ∧ 0 ≤ u ∧ u ≤ 9999) := Lib.hid (by rw [← hr, ← hu, Int.tmod_eq_emod_of_nonneg sb.1, Int.tdiv_eq_ediv_of_nonneg sb.1]; omega)
            have su : IntKind.i64.wrap u = u := IntWalk.i64_in _ (by have := HRU.out; omega)
            have nI := Lib.hid (hI.out.step hlb.out hkj (by omega) (s := s) (q := u) (r := r) (by rw [hq, HLV.out, HX.out, HY.out, HXY.out]; exact HSv.out.symm) HRU.out.1 HRU.out.2.1 HRU.out.2.2.1 HRU.out.2.2.2.1 HRU.out.2.2.2.2)
            rw [hq] at nI
            have s5 : IntKind.i64.wrap ((j : Int) + 1) = (j : Int) + 1 := IntWalk.i64_in _ (by omega)
            have HQ := Lib.hid hq; clear hq hkj
            have HB2 := Lib.hid (HB.out.below hBv.out)
            clear hI sb xy1 xy2 lb1
            go_wp2_with fail
            have hRf : Below wr.heap.size wr wr := Below.refl _ _
            have HS : Hid (∀ W, Below wr.heap.size wr W → (fun W' => Below wr.heap.size wr W' ∧ W'.cell? ⟨w.heap.size, 0, none⟩ = some (.slice (some ⟨ba, oa, none⟩) la ca) ∧ W'.cell? ⟨w.heap.size + 1, 0, none⟩ = some (.slice B lb cb) ∧ W'.cell? ⟨w0.heap.size, q, none⟩ = some (.int .i64 l) ∧ W'.cell? ⟨ba, oa + k, none⟩ = some (.int .i64 x)) W) := Lib.hid (fun W h => ⟨h, below_some h _ _ _ g1, below_some h _ _ _ g2, below_some h _ _ _ gq, below_some h _ _ _ gx⟩)
            go_region_held3 (fun W' => Below wr.heap.size wr W' ∧ W'.cell? ⟨w.heap.size, 0, none⟩ = some (.slice (some ⟨ba, oa, none⟩) la ca) ∧ W'.cell? ⟨w.heap.size + 1, 0, none⟩ = some (.slice B lb cb) ∧ W'.cell? ⟨w0.heap.size, q, none⟩ = some (.int .i64 l) ∧ W'.cell? ⟨ba, oa + k, none⟩ = some (.int .i64 x)) ((refine HS.out _ ?_; repeat (first | (with_reducible assumption) | (with_reducible exact Below.refl _ _) | (with_reducible refine Below.drew ?_) | (with_reducible refine below_drewN' ?_ _) | (with_reducible refine below_al ?_) | ((with_reducible refine below_set ?_ ?_); rotate_left; focus (first | (simp; done) | (simp; omega)))))) (first | (go_at_call 87; refine (bpart_c B cb m j lb y hlb HY (by omega) _ (HB2.out.below (by repeat (first | (with_reducible assumption) | (with_reducible exact Below.refl _ _) | (with_reducible refine Below.drew ?_) | (with_reducible refine below_drewN' ?_ _) | (with_reducible refine below_al ?_) | ((with_reducible refine below_set ?_ ?_); rotate_left; focus (first | (simp; done) | (simp; omega))))))).mono ?_; rintro e wq ⟨rfl, hbq⟩; have hBq := below_step (w := wr) hbq (by repeat (first | (with_reducible assumption) | (with_reducible exact Below.refl _ _) | (with_reducible refine Below.drew ?_) | (with_reducible refine below_drewN' ?_ _) | (with_reducible refine below_al ?_) | ((with_reducible refine below_set ?_ ?_); rotate_left; focus (first | (simp; done) | (simp; omega))))); clear hbq))
            have gq2 := below_some hBq _ _ _ gq
            have fq2 : wq.frozen? ⟨w0.heap.size, q, none⟩ = false := blk_free (blk_st hBq hH.out)
            have nG : Hid ((wq.setCell ⟨w0.heap.size, q, none⟩ (.int .i64 r)).heap[w0.heap.size]? = some (.cells (ints (M.set q r)).toArray 3 (0, 0))) := Lib.hid (by rw [← ints_set]; exact blk_set (blk_st hBq hH.out))
            have nB : Hid (Below w0.heap.size w0 (wq.setCell ⟨w0.heap.size, q, none⟩ (.int .i64 r))) := Lib.hid (below_set (hBv.out.trans (hBq.mono hBv.out.size)) (Nat.le_refl _))
            clear HS hBq hRf gq fq gx g1 g2
            go_wp2_with fail
            go_roundw
            case rel => exact ⟨j + 1, u, M.set q r, rfl, by go_num, nI, nG, nB⟩
            case measure => simp [intOf]; omega
          · have dj : decide ((j : Int) < (lb : Int)) = false := decide_eq_false (by omega)
            have djz : ¬ (j : Int) < (lb : Int) := by omega
            have dc : decide ((0 : Int) < cy) = false := decide_eq_false (by omega)
            have nO := Lib.hid (hI.out.out hlb.out (by omega) (by omega))
            go_wp2_with fail
            go_roundw
            case rel => exact ⟨k + 1, M, by omega, by go_num, nO, hH, hBv⟩
            case measure => simp [intOf]; omega
    · have hlz : ¬ (k : Int) < (la : Int) := by omega
      have hd1 := decide_eq_false hlz
      obtain rfl : k = la := by omega
      have HE : (vl L).toNat = n * m := by (rw [hO.out.val, Nat.mod_eq_of_lt (by have := dg_lt n; rw [hla.out] at this; exact this), ← Int.natCast_mul]; exact Int.toNat_natCast _)
      have hD : DIn wr (some ⟨w0.heap.size, 0, none⟩) L := Or.inr ⟨w0.heap.size, 0, rfl, blk_lt hG.out, fun q hq => by rw [Nat.zero_add]; exact ints_cell hG.out q hq⟩
      have HT := trim_c (some ⟨w0.heap.size, 0, none⟩) NN NN L hO.out.len.symm hO.out.prt (by rw [hO.out.len]; omega) (by rw [hO.out.len]; omega) wr hD
      rw [HE] at HT
      have HT := Lib.hid HT
      clear HE hD
      go_wp2_with fail
      refine HT.out.mono ?_; rintro e w1 ⟨T, tc, rfl, hT, hb1⟩
      have h2 : Below w0.heap.size w0 w1 := hBr.out.trans (hb1.mono hBr.out.size)
      have gr1 := below_some h2 _ _ _ GR.out
      have gf1 := (h2.frozen (p := ⟨w.heap.size + 1 + 1, 0, none⟩) (by have := HZ0.out; simp; omega)).trans GF.out
      have HTD := Lib.hid hT; clear hT
      have H2 := Lib.hid (below_step (w := w) h2 hB0); clear h2
      have zz1 := hb1.size; have zz2 := HZ0.out
      clear g1 g2 hb1
      go_wp2_with fail
      refine bodyPost_ret (v := .agg #[.slice T (dg (n * m)).length tc]) (by simp [results, Tryd.results74, go_sem, gr1]) rfl ?_
      exact ⟨T, tc, rfl, (HTD.out.set (Or.inl (by omega))).wide (by omega) (by simp), below_set H2.out (by simp; omega)⟩
set_option maxRecDepth 100000 in
set_option maxHeartbeats 4000000 in
theorem bprod_nil (A : Option Addr) (B : Option Addr) (ca cb m lb : Nat) (blb : lb ≤ 10000) (w : World) : Calls Tryd.prog 74 #[.agg #[.slice A 0 ca], .agg #[.slice B lb cb]] w (BigRet 0 w) := by
  have s1 : IntKind.i64.wrap ((lb : Int)) = (lb : Int) := IntWalk.i64_in _ (by omega)
  have s2 : IntKind.i64.wrap ((lb : Int) + 1) = ((lb + 1 : Nat) : Int) := by rw [IntWalk.i64_in _ (by omega)]; omega
  obtain ⟨NN, hNN⟩ : ∃ NN, lb + 1 = NN := ⟨_, rfl⟩
  rw [hNN] at s2; have HNN := Lib.hid hNN; clear hNN
  have bN : NN ≤ 20001 := by have := HNN.out; omega
  have hmk := mk_c NN (by omega)
  go_enter Tryd.func74, Tryd.ntmps74
  go_upto_region 1 with fail
  generalize hW : (((w.alloc _).alloc _).alloc _) = w0
  have hB0 : Below w.heap.size w w0 := by rw [← hW]; exact below_al (below_al (below_al (Below.refl _ _)))
  have hz0w : w0.heap.size = w.heap.size + 3 := by rw [← hW]; simp
  have ga : w0.cell? ⟨w.heap.size, 0, none⟩ = some (.slice A 0 ca) := by rw [← hW]; exact cell_al (cell_al (cell_nu rfl rfl))
  have gb : w0.cell? ⟨w.heap.size + 1, 0, none⟩ = some (.slice B lb cb) := by rw [← hW]; exact cell_al (cell_nu (by simp) rfl)
  have gr : w0.cell? ⟨w.heap.size + 1 + 1, 0, none⟩ = some (.slice none 0 0) := by rw [← hW]; exact cell_nu (by simp) rfl
  have gf : w0.frozen? ⟨w.heap.size + 1 + 1, 0, none⟩ = false := by rw [← hW]; exact blk_free (blk_nu (by simp))
  have lt0 : w.heap.size < w0.heap.size := by omega
  have HZ0 := Lib.hid hz0w; have GR := Lib.hid gr; have GF := Lib.hid gf; clear hW hz0w gr gf
  go_wp2_with fail
  refine wp_loop_rounds 1 ?_
  rw [rounds_succ]
  have HD : Hid (DIn (w0.alloc (.cells (ints (List.replicate NN 0)).toArray 3)) (some ⟨w0.heap.size, 0, none⟩) (List.replicate NN 0)) := Lib.hid (Or.inr ⟨w0.heap.size, 0, rfl, by simp, fun q hq => by rw [Nat.zero_add]; exact ints_cell (blk_nu rfl) q hq⟩)
  go_wp2_with fail
  have HT := trim_c (some ⟨w0.heap.size, 0, none⟩) NN NN (List.replicate NN 0) (by simp) (PO.start 0 0 0 NN).prt (by simp) (by simp; omega) _ HD.out
  rw [show (vl (List.replicate NN 0)).toNat = 0 by rw [(PO.start 0 0 0 NN).val]; simp] at HT
  refine HT.mono ?_; rintro e w1 ⟨T, tc, rfl, hT, hb1⟩
  have h2 : Below w0.heap.size w0 w1 := below_step (w := w0) hb1 (below_al (Below.refl _ _))
  have gr1 := below_some h2 _ _ _ GR.out
  have gf1 := (h2.frozen (p := ⟨w.heap.size + 1 + 1, 0, none⟩) (by have := HZ0.out; simp; omega)).trans GF.out
  have HTD := Lib.hid hT; have H2 := Lib.hid (below_step (w := w) h2 hB0); have zz1 := h2.size; have zz2 := HZ0.out
  have zz3 := hb1.size; simp at zz3
  clear hT h2 hb1 HT ga gb
  go_wp2_with fail
  refine bodyPost_ret (v := .agg #[.slice T (dg 0).length tc]) (by simp [results, Tryd.results74, go_sem, gr1]) rfl ?_
  exact ⟨T, tc, rfl, (HTD.out.set (Or.inl (by simp; omega))).wide (by simp; omega) (by simp), below_set H2.out (by simp; omega)⟩
theorem bprod_c (A B : Option Addr) (ca cb n m la lb : Nat) (hla : Hid ((dg n).length = la)) (hlb : Hid ((dg m).length = lb)) (bla : la ≤ 10000) (blb : lb ≤ 10000) (w : World) (ha : DIn w A (dg n)) (hb : DIn w B (dg m)) : Calls Tryd.prog 74 #[.agg #[.slice A la ca], .agg #[.slice B lb cb]] w (BigRet (n * m) w) := by
  rcases ha with h | ⟨ba, oa, rfl, hba, hca⟩
  · have h0 : la = 0 := by rw [← hla.out, h]; rfl
    have hn : n = 0 := dg_nil.1 (by rw [h]; rfl)
    subst h0 hn
    rw [Nat.zero_mul]
    exact bprod_nil A B ca cb m lb blb w
  · exact bprod_at ba oa B ca cb n m la lb hla hlb bla blb w hba (fun j hj => by rw [hca j (by rw [hla.out]; exact hj), pt_at]) hb
end Go.Proofs.YtjcjchapfiokeaaDoor
