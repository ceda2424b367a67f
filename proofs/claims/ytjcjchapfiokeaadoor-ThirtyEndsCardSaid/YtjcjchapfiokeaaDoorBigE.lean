/- Numbers of any size, the document's: how often one goes into another, and what is left. Conditions: sizes far below the machine's. -/
import Derived.Test.YtjcjchapfiokeaaDoorBigD
import Derived.Test.YtjcjchapfiokeaaDoorAppO
import Derived.Deep.DeepCutAuto
namespace Go.Proofs.YtjcjchapfiokeaaDoor
open Go.RowKit
set_option linter.unusedVariables false
set_option linter.unusedSimpArgs false
/-- What has been found so far: the quotient's parts from the k-th on, and what is left. -/
structure QI (n m k la : Nat) (L : List Int) (r : Nat) : Prop where
  len : L.length = la
  prt : PartL L
  val : vl (L.drop k) = ((n / 10000 ^ k / m : Nat) : Int)
  rem : r = n / 10000 ^ k % m
theorem QI.start {n m la : Nat} (hla : (dg n).length = la) : QI n m la la (List.replicate la 0) 0 :=
  ⟨by simp, fun x hx => by rw [(List.mem_replicate.1 hx).2]; omega, by rw [List.drop_replicate]; simp [vl, dg_high (show (dg n).length ≤ la by omega)], by rw [dg_high (by omega)]; simp⟩
/-- What is left, with the next part behind it. -/
def nextR (n k r : Nat) : Nat := n / 10000 ^ k % 10000 + 10000 * r
theorem nextR_lt {n m k r : Nat} (hm : 0 < m) (hr : r < m) : nextR n k r < m * 10000 := by
  unfold nextR
  have : n / 10000 ^ k % 10000 < 10000 := Nat.mod_lt _ (by decide)
  generalize n / 10000 ^ k % 10000 = a at *
  omega
theorem nextR_val (n k r : Nat) : (vl (pt n k :: dg r)).toNat = nextR n k r := by
  rw [vl, vl_dg]; unfold nextR pt; omega
theorem QI.step {n m k la : Nat} {L : List Int} {r lo : Nat} (h : QI n m (k + 1) la L r) (hm : 0 < m) (hk : k < la) (hlo : lo = nextR n k r / m) (hlt : lo < 10000) : QI n m k la (L.set k (lo : Int)) (nextR n k r - m * lo) := by
  have e : n / 10000 ^ k = n / 10000 ^ k % 10000 + 10000 * (n / 10000 ^ (k + 1)) := by
    rw [div_step]; generalize n / 10000 ^ k = u; omega
  have hq := quot_step (n / 10000 ^ (k + 1)) (n / 10000 ^ k % 10000) m r lo (nextR n k r) h.rem rfl hlo hm
  rw [← e] at hq
  refine ⟨by rw [List.length_set]; exact h.len, parts_set h.prt _ _ (by omega), ?_, ?_⟩
  · have hkl : k < L.length := by rw [h.len]; exact hk
    rw [List.drop_set, if_neg (by omega), Nat.sub_self, List.drop_eq_getElem_cons hkl, List.set_cons_zero, vl, h.val, hq.1]
    rw [Int.natCast_add, Int.natCast_mul]; rfl
  · rw [hq.2, hlo]
    have := Nat.div_add_mod (nextR n k r) m
    omega
theorem QI.done {n m la : Nat} {L : List Int} {r : Nat} (h : QI n m 0 la L r) : (vl L).toNat = n / m ∧ r = n % m := by
  have h1 := h.val; have h2 := h.rem
  simp at h1 h2
  exact ⟨by rw [h1]; exact Int.toNat_natCast _, h2⟩
theorem own_made {W : World} {G : Nat} {x : Int} {B : Nat} (h : W.heap[G]? = some (.cells #[.int .i64 x] 3 (0, 0))) (hB : B ≤ G) : W.ownsRow B 3 1 (.slice (some ⟨G, 0, none⟩) 1 1) 1 (ints [x]) :=
  ⟨rfl, Or.inr ⟨G, 1, #[.int .i64 x], rfl, hB, h, Nat.le_refl _, by decide, rfl, rfl⟩⟩
theorem dg_mul_len {m k : Nat} (hk : k ≤ 10000) : (dg (m * k)).length ≤ (dg m).length + 2 := by
  refine dg_le ?_
  have h1 := dg_lt m
  rw [Nat.pow_add]
  exact Nat.lt_of_lt_of_le (Nat.lt_of_le_of_lt (Nat.mul_le_mul_left m hk) (Nat.mul_lt_mul_of_pos_right h1 (by decide))) (Nat.mul_le_mul_left _ (by decide))
theorem dg_mono {a b : Nat} (h : a ≤ b) : (dg a).length ≤ (dg b).length := dg_le (Nat.lt_of_le_of_lt h (dg_lt b))
def QuotRet (n m : Nat) (w : World) (e : Ending) (w' : World) : Prop := ∃ (A : Option Addr) (c : Nat) (B : Option Addr) (d : Nat), e = .returned (.tuple #[.agg #[.slice A (dg n).length c], .agg #[.slice B (dg m).length d]]) ∧ DBt w' w.heap.size w'.heap.size A (dg n) ∧ DBt w' w.heap.size w'.heap.size B (dg m) ∧ Below w.heap.size w w'
set_option maxRecDepth 100000 in
set_option maxHeartbeats 8000000 in
theorem bquot_at (ba oa : Nat) (B : Option Addr) (ca cb n m la lb : Nat) (hm : 0 < m) (hla : Hid ((dg n).length = la)) (hlb : Hid ((dg m).length = lb)) (bla : la ≤ 1000) (blb : lb ≤ 1000) (w : World) (hba : ba < w.heap.size) (hca : ∀ j, j < la → w.cell? ⟨ba, oa + j, none⟩ = some (.int .i64 (pt n j))) (hb : DIn w B (dg m)) : Calls Tryd.prog 84 #[.agg #[.slice (some ⟨ba, oa, none⟩) la ca], .agg #[.slice B lb cb]] w (QuotRet (n / m) (n % m) w) := by
  obtain ⟨i0, hi0, hz0, hs0, hb0⟩ := info_parts infoD
  have hmk := mk_c la (by omega)
  have s0 : IntKind.i64.wrap ((la : Int) - 1) = (la : Int) - 1 := IntWalk.i64_in _ (by omega)
  go_enter Tryd.func84, Tryd.ntmps84
  go_upto_region 1 with fail
  generalize hW : ((((w.alloc _).alloc _).alloc _).alloc _) = w0
  have hB0 : Below w.heap.size w w0 := by rw [← hW]; exact below_al (below_al (below_al (below_al (Below.refl _ _))))
  have hz0w : w0.heap.size = w.heap.size + 4 := by rw [← hW]; simp
  have ga : w0.cell? ⟨w.heap.size, 0, none⟩ = some (.slice (some ⟨ba, oa, none⟩) la ca) := by rw [← hW]; exact cell_al (cell_al (cell_al (cell_nu rfl rfl)))
  have gb : w0.cell? ⟨w.heap.size + 1, 0, none⟩ = some (.slice B lb cb) := by rw [← hW]; exact cell_al (cell_al (cell_nu (by simp) rfl))
  have gr : w0.cell? ⟨w.heap.size + 1 + 1, 0, none⟩ = some (.slice none 0 0) := by rw [← hW]; exact cell_al (cell_nu (by simp) rfl)
  have gf : w0.frozen? ⟨w.heap.size + 1 + 1, 0, none⟩ = false := by rw [← hW]; exact blk_free (blk_al (blk_nu (by simp)))
  have gs : w0.cell? ⟨w.heap.size + 1 + 1 + 1, 0, none⟩ = some (.slice none 0 0) := by rw [← hW]; exact cell_nu (by simp) rfl
  have ge : w0.frozen? ⟨w.heap.size + 1 + 1 + 1, 0, none⟩ = false := by rw [← hW]; exact blk_free (blk_nu (by simp))
  have HCA : Hid (∀ j, j < la → w0.cell? ⟨ba, oa + j, none⟩ = some (.int .i64 (pt n j))) := Lib.hid (fun j hj => below_some hB0 _ _ _ (hca j hj))
  have HB := Lib.hid (hb.below hB0); have GA := Lib.hid ga; have GB := Lib.hid gb; have GR := Lib.hid gr; have GF := Lib.hid gf; have GS := Lib.hid gs; have GE := Lib.hid ge; have HZ0 := Lib.hid hz0w
  have lt0 : w.heap.size < w0.heap.size := by omega
  clear hW hca hb gr gf gs ge hz0w
  go_wp2_with fail
  go_loopw [8] (fun p wr => ∃ (k r l : Nat) (L : List Int) (A : Option Addr) (c : Nat), k ≤ la ∧ p = .int .i64 ((k : Int) - 1) ∧ Hid (QI n m k la L r) ∧ Hid (r < m) ∧ Hid ((dg r).length = l) ∧ Hid (wr.heap[w0.heap.size]? = some (.cells (ints L).toArray 3 (0, 0))) ∧ Hid (wr.heap[w0.heap.size + 1]? = some (.cells #[.slice A l c] 102 (0, 0))) ∧ Hid (DBt wr (w0.heap.size + 2) wr.heap.size A (dg r)) ∧ Hid (Below w0.heap.size w0 wr)) (fun p _ => (intOf p + 1).toNat)
  case atStart => exact ⟨la, 0, 0, _, none, 0, Nat.le_refl _, rfl, Lib.hid (QI.start hla.out), Lib.hid hm, Lib.hid (by rw [dg_zero]; rfl), Lib.hid (blk_al (blk_nu rfl)), Lib.hid (blk_nu (by simp)), Lib.hid (Or.inl dg_zero), Lib.hid (below_al (below_al (Below.refl _ _)))⟩
  case round =>
    obtain ⟨k, r, l, L, A, c, hk, rfl, hQ, hrm, hl, hG, hR, hD, hBr⟩ := hrel
    clear ga gb
    have g1 := below_some hBr.out _ _ _ GA.out
    have g2 := below_some hBr.out _ _ _ GB.out
    have hzr := hBr.out.size
    have g3 := blk_cell hR.out (show (#[.slice A l c] : Array Value)[0]? = some _ from rfl)
    have g3f : wr.frozen? ⟨w0.heap.size + 1, 0, none⟩ = false := blk_free hR.out
    have hzr2 : w0.heap.size + 1 < wr.heap.size := blk_lt hR.out
    cases k with
    | zero =>
      have hdn := hQ.out.done
      have HQD := Lib.hid hdn; clear hdn
      have hDI : DIn wr (some ⟨w0.heap.size, 0, none⟩) L := Or.inr ⟨w0.heap.size, 0, rfl, blk_lt hG.out, fun q hq => by rw [Nat.zero_add]; exact ints_cell hG.out q hq⟩
      have HDI := Lib.hid hDI; clear hDI
      have zw := HZ0.out
      have gr4 := below_some hBr.out _ _ _ GR.out
      have gr5 := below_some hBr.out _ _ _ GS.out
      have gf4 := (hBr.out.frozen (p := ⟨w.heap.size + 1 + 1, 0, none⟩) (by simp; omega)).trans GF.out
      have gf5 := (hBr.out.frozen (p := ⟨w.heap.size + 1 + 1 + 1, 0, none⟩) (by simp; omega)).trans GE.out
      have hBw : Below w.heap.size w wr := hB0.trans (hBr.out.mono hB0.size)
      have lr4 : w.heap.size + 1 + 1 < wr.heap.size := by omega
      have lr5 : w.heap.size + 1 + 1 + 1 < wr.heap.size := by omega
      have hrr : Below wr.heap.size wr wr := Below.refl _ _
      clear zw
      have HLA : Hid (L.length = la) := Lib.hid hQ.out.len; have HPL : Hid (PartL L) := Lib.hid hQ.out.prt
      go_upto_region 16 with fail
      have HS : Hid (∀ W, Below w.heap.size w W → (fun W' => Below w.heap.size w W') W) := Lib.hid (fun W h => h)
      refine wp_region_held_drew (S := (fun W' => Below w.heap.size w W')) (by kernel_rfl) ?_ (fun hHeld => ?_)
      · exact HS.out _ hBw.drew
      refine wpAnyH_take (i := 0) (oi := ?_) (v := ?_) ?_ (by kernel_rfl) (by kernel_rfl) (by kernel_rfl) ?_ (Or.inl ⟨?_, ?_⟩) (by assumption) ?_; rotate_left 2
      · ((try simp only [List.getElem?_toArray, List.getElem?_cons_succ, List.getElem?_cons_zero]); rfl)
      · exact (fun _ _ _ h => h)
      · rfl
      · (intro w hSw; (try dsimp only at hSw); go_simp; (try with_reducible rfl))
      (try simp only [Act.put, List.setIfInBounds_toArray, List.set_cons_zero, List.set_cons_succ])
      refine wpAnyH_ready (rs := [1, 2]) (by kernel_rfl) (by simp) ?_
      refine AllReadyH.cons (o := ?oz1) ?hz1 ?sz1 (AllReadyH.cons (o := ?oz2) ?hz2 ?sz2 AllReadyH.nil)
      case hz1 => ((try simp only [List.getElem?_toArray, List.getElem?_cons_succ, List.getElem?_cons_zero]); rfl)
      case hz2 => ((try simp only [List.getElem?_toArray, List.getElem?_cons_succ, List.getElem?_cons_zero]); rfl)
      case sz1 =>
        intro K hK
        go_simp
        refine (trim_c (some ⟨w0.heap.size, 0, none⟩) la la L HLA.out.symm HPL.out (by rw [HLA.out]; omega) (by rw [HLA.out]; omega) _ (HDI.out.below (by repeat (first | (with_reducible assumption) | (with_reducible exact Below.refl _ _) | (with_reducible refine Below.drew ?_) | (with_reducible refine below_drewN' ?_ _) | (with_reducible refine below_al ?_) | ((with_reducible refine below_set ?_ ?_); rotate_left; focus (first | (simp; done) | (simp; omega))))))).mono ?_; intro e wT hbr; rw [HQD.out.1] at hbr; obtain ⟨TA, tc, rfl, hT, hbT⟩ := hbr
        have hBT : Below wr.heap.size wr wT := below_step (w := wr) hbT (by repeat (first | (with_reducible assumption) | (with_reducible exact Below.refl _ _) | (with_reducible refine Below.drew ?_) | (with_reducible refine below_drewN' ?_ _) | (with_reducible refine below_al ?_) | ((with_reducible refine below_set ?_ ?_); rotate_left; focus (first | (simp; done) | (simp; omega)))))
        have k3 := below_some hBT _ _ _ g3
        have k4 := below_some hBT _ _ _ gr4; have k5 := below_some hBT _ _ _ gr5
        have m4 := (hBT.frozen (p := ⟨w.heap.size + 1 + 1, 0, none⟩) lr4).trans gf4; have m5 := (hBT.frozen (p := ⟨w.heap.size + 1 + 1 + 1, 0, none⟩) lr5).trans gf5
        have zT := hBT.size
        (try go_wp2_with fail)
        refine hK.out _ _ ?_ (fun hNew => ?_)
        · (refine HS.out _ ?_; first | (with_reducible exact hS9) | (with_reducible exact hS9.drew) | (with_reducible exact hS8) | (with_reducible exact hS8.drew) | (refine hBw.trans (Below.mono ?_ hBw.size); repeat (first | (with_reducible assumption) | (with_reducible exact Below.refl _ _) | (with_reducible refine Below.drew ?_) | (with_reducible refine below_drewN' ?_ _) | (with_reducible refine below_al ?_) | ((with_reducible refine below_set ?_ ?_); rotate_left; focus (first | (simp; done) | (simp; omega))))))
        clear hK K hHeld; have hHeld := hNew; clear hNew
        (try simp only [Act.put, List.setIfInBounds_toArray, List.set_cons_zero, List.set_cons_succ])
        refine wpAnyH_ready (rs := [2, 3]) (by kernel_rfl) (by simp) ?_
        refine AllReadyH.cons (o := ?oy1) ?hy1 ?sy1 (AllReadyH.cons (o := ?oy2) ?hy2 ?sy2 AllReadyH.nil)
        case hy1 => ((try simp only [List.getElem?_toArray, List.getElem?_cons_succ, List.getElem?_cons_zero]); rfl)
        case hy2 => ((try simp only [List.getElem?_toArray, List.getElem?_cons_succ, List.getElem?_cons_zero]); rfl)
        case sy1 =>
          intro K hK
          go_simp
          refine hK.out _ _ ?_ (fun hNew => ?_)
          · (refine HS.out _ ?_; first | (with_reducible exact hS9) | (with_reducible exact hS9.drew) | (with_reducible exact hS8) | (with_reducible exact hS8.drew) | (refine hBw.trans (Below.mono ?_ hBw.size); repeat (first | (with_reducible assumption) | (with_reducible exact Below.refl _ _) | (with_reducible refine Below.drew ?_) | (with_reducible refine below_drewN' ?_ _) | (with_reducible refine below_al ?_) | ((with_reducible refine below_set ?_ ?_); rotate_left; focus (first | (simp; done) | (simp; omega))))))
          clear hK K hHeld; have hHeld := hNew; clear hNew
          (try simp only [Act.put, List.setIfInBounds_toArray, List.set_cons_zero, List.set_cons_succ])
          refine wpAnyH_ready (rs := [3]) (by kernel_rfl) (by simp) ?_
          refine AllReadyH.cons (o := ?_) ?_ (fun K hK => ?_) AllReadyH.nil; rotate_left 1
          · ((try simp only [List.getElem?_toArray, List.getElem?_cons_succ, List.getElem?_cons_zero]); rfl)
          have hS8 : Below w.heap.size w (wT.setCell ⟨w.heap.size + 1 + 1, 0, none⟩ (.slice TA (dg (n / m)).length tc)) := below_set (hBw.trans (hBT.mono hBw.size)) (by simp; omega)
          go_simp
          refine hK.out _ _ ?_ (fun hNew => ?_)
          · (refine HS.out _ ?_; first | (with_reducible exact hS9) | (with_reducible exact hS9.drew) | (with_reducible exact hS8) | (with_reducible exact hS8.drew) | (refine hBw.trans (Below.mono ?_ hBw.size); repeat (first | (with_reducible assumption) | (with_reducible exact Below.refl _ _) | (with_reducible refine Below.drew ?_) | (with_reducible refine below_drewN' ?_ _) | (with_reducible refine below_al ?_) | ((with_reducible refine below_set ?_ ?_); rotate_left; focus (first | (simp; done) | (simp; omega))))))
          clear hK K hHeld; have hHeld := hNew; clear hNew
          (try simp only [Act.put, List.setIfInBounds_toArray, List.set_cons_zero, List.set_cons_succ])
          refine wpAnyH_ready (rs := [4]) (by kernel_rfl) (by simp) ?_
          refine AllReadyH.cons (o := ?_) ?_ (fun K hK => ?_) AllReadyH.nil; rotate_left 1
          · ((try simp only [List.getElem?_toArray, List.getElem?_cons_succ, List.getElem?_cons_zero]); rfl)
          have hS9 : Below w.heap.size w ((wT.setCell ⟨w.heap.size + 1 + 1, 0, none⟩ (.slice TA (dg (n / m)).length tc)).setCell ⟨w.heap.size + 1 + 1 + 1, 0, none⟩ (.slice A l c)) := below_set hS8 (by simp; omega)
          go_simp
          refine hK.out _ _ ?_ (fun hNew => ?_)
          · (refine HS.out _ ?_; first | (with_reducible exact hS9) | (with_reducible exact hS9.drew) | (with_reducible exact hS8) | (with_reducible exact hS8.drew) | (refine hBw.trans (Below.mono ?_ hBw.size); repeat (first | (with_reducible assumption) | (with_reducible exact Below.refl _ _) | (with_reducible refine Below.drew ?_) | (with_reducible refine below_drewN' ?_ _) | (with_reducible refine below_al ?_) | ((with_reducible refine below_set ?_ ?_); rotate_left; focus (first | (simp; done) | (simp; omega))))))
          clear hK K hHeld; have hHeld := hNew; clear hNew
          (try simp only [Act.put, List.setIfInBounds_toArray, List.set_cons_zero, List.set_cons_succ])
          refine wpAnyH_done (by kernel_rfl) ?_ _
          have zw := HZ0.out
          have k4' := T1 wT (.slice TA (dg (n / m)).length tc) k4
          have hDA := Lib.hid (((hT.set (k := w.heap.size + 1 + 1) (i := 0) (u := .slice TA (dg (n / m)).length tc) (Or.inl (by first | omega | (simp; omega)))).set (k := w.heap.size + 1 + 1 + 1) (i := 0) (u := .slice A l c) (Or.inl (by first | omega | (simp; omega)))))
          have hDB := Lib.hid ((((hD.out.below hBT).set (k := w.heap.size + 1 + 1) (i := 0) (u := .slice TA (dg (n / m)).length tc) (Or.inl (by first | omega | (simp; omega)))).set (k := w.heap.size + 1 + 1 + 1) (i := 0) (u := .slice A l c) (Or.inl (by first | omega | (simp; omega)))))
          have HS9 := Lib.hid hS9; clear hS8 hS9 HS hHeld zw
          go_wp2_with fail
          have hr9 := HQD.out.2
          subst hr9
          have hl9 := hl.out
          subst hl9
          have zw := HZ0.out
          refine bodyPost_ret (v := .tuple #[.agg #[.slice TA (dg (n / m)).length tc], .agg #[.slice A (dg (n % m)).length c]]) (by simp [results, Tryd.results84, go_sem, k4', k5]) rfl ?_
          exact ⟨TA, tc, A, c, rfl, hDA.out.wide (by simp; omega) (by simp), hDB.out.wide (by omega) (by simp; omega), HS9.out⟩
        case sy2 =>
          intro K hK
          have hS8 : Below w.heap.size w (wT.setCell ⟨w.heap.size + 1 + 1, 0, none⟩ (.slice TA (dg (n / m)).length tc)) := below_set (hBw.trans (hBT.mono hBw.size)) (by simp; omega)
          have k3s := blk_cell (blk_off (g := w.heap.size + 1 + 1) (q := 0) (v := .slice TA (dg (n / m)).length tc) (by have := HZ0.out; omega) (blk_st hBT hR.out)) (show (#[.slice A l c] : Array Value)[0]? = some _ from rfl)
          go_simp
          refine hK.out _ _ ?_ (fun hNew => ?_)
          · (refine HS.out _ ?_; first | (with_reducible exact hS9) | (with_reducible exact hS9.drew) | (with_reducible exact hS8) | (with_reducible exact hS8.drew) | (refine hBw.trans (Below.mono ?_ hBw.size); repeat (first | (with_reducible assumption) | (with_reducible exact Below.refl _ _) | (with_reducible refine Below.drew ?_) | (with_reducible refine below_drewN' ?_ _) | (with_reducible refine below_al ?_) | ((with_reducible refine below_set ?_ ?_); rotate_left; focus (first | (simp; done) | (simp; omega))))))
          clear hK K hHeld; have hHeld := hNew; clear hNew
          (try simp only [Act.put, List.setIfInBounds_toArray, List.set_cons_zero, List.set_cons_succ])
          refine wpAnyH_ready (rs := [2]) (by kernel_rfl) (by simp) ?_
          refine AllReadyH.cons (o := ?_) ?_ (fun K hK => ?_) AllReadyH.nil; rotate_left 1
          · ((try simp only [List.getElem?_toArray, List.getElem?_cons_succ, List.getElem?_cons_zero]); rfl)
          go_simp
          refine hK.out _ _ ?_ (fun hNew => ?_)
          · (refine HS.out _ ?_; first | (with_reducible exact hS9) | (with_reducible exact hS9.drew) | (with_reducible exact hS8) | (with_reducible exact hS8.drew) | (refine hBw.trans (Below.mono ?_ hBw.size); repeat (first | (with_reducible assumption) | (with_reducible exact Below.refl _ _) | (with_reducible refine Below.drew ?_) | (with_reducible refine below_drewN' ?_ _) | (with_reducible refine below_al ?_) | ((with_reducible refine below_set ?_ ?_); rotate_left; focus (first | (simp; done) | (simp; omega))))))
          clear hK K hHeld; have hHeld := hNew; clear hNew
          (try simp only [Act.put, List.setIfInBounds_toArray, List.set_cons_zero, List.set_cons_succ])
          refine wpAnyH_ready (rs := [4]) (by kernel_rfl) (by simp) ?_
          refine AllReadyH.cons (o := ?_) ?_ (fun K hK => ?_) AllReadyH.nil; rotate_left 1
          · ((try simp only [List.getElem?_toArray, List.getElem?_cons_succ, List.getElem?_cons_zero]); rfl)
          have hS9 : Below w.heap.size w ((wT.setCell ⟨w.heap.size + 1 + 1, 0, none⟩ (.slice TA (dg (n / m)).length tc)).setCell ⟨w.heap.size + 1 + 1 + 1, 0, none⟩ (.slice A l c)) := below_set hS8 (by simp; omega)
          go_simp
          refine hK.out _ _ ?_ (fun hNew => ?_)
          · (refine HS.out _ ?_; first | (with_reducible exact hS9) | (with_reducible exact hS9.drew) | (with_reducible exact hS8) | (with_reducible exact hS8.drew) | (refine hBw.trans (Below.mono ?_ hBw.size); repeat (first | (with_reducible assumption) | (with_reducible exact Below.refl _ _) | (with_reducible refine Below.drew ?_) | (with_reducible refine below_drewN' ?_ _) | (with_reducible refine below_al ?_) | ((with_reducible refine below_set ?_ ?_); rotate_left; focus (first | (simp; done) | (simp; omega))))))
          clear hK K hHeld; have hHeld := hNew; clear hNew
          (try simp only [Act.put, List.setIfInBounds_toArray, List.set_cons_zero, List.set_cons_succ])
          refine wpAnyH_done (by kernel_rfl) ?_ _
          have zw := HZ0.out
          have k4' := T1 wT (.slice TA (dg (n / m)).length tc) k4
          have hDA := Lib.hid (((hT.set (k := w.heap.size + 1 + 1) (i := 0) (u := .slice TA (dg (n / m)).length tc) (Or.inl (by first | omega | (simp; omega)))).set (k := w.heap.size + 1 + 1 + 1) (i := 0) (u := .slice A l c) (Or.inl (by first | omega | (simp; omega)))))
          have hDB := Lib.hid ((((hD.out.below hBT).set (k := w.heap.size + 1 + 1) (i := 0) (u := .slice TA (dg (n / m)).length tc) (Or.inl (by first | omega | (simp; omega)))).set (k := w.heap.size + 1 + 1 + 1) (i := 0) (u := .slice A l c) (Or.inl (by first | omega | (simp; omega)))))
          have HS9 := Lib.hid hS9; clear hS8 hS9 HS hHeld zw
          go_wp2_with fail
          have hr9 := HQD.out.2
          subst hr9
          have hl9 := hl.out
          subst hl9
          have zw := HZ0.out
          refine bodyPost_ret (v := .tuple #[.agg #[.slice TA (dg (n / m)).length tc], .agg #[.slice A (dg (n % m)).length c]]) (by simp [results, Tryd.results84, go_sem, k4', k5]) rfl ?_
          exact ⟨TA, tc, A, c, rfl, hDA.out.wide (by simp; omega) (by simp), hDB.out.wide (by omega) (by simp; omega), HS9.out⟩
      case sz2 =>
        intro K hK
        go_simp
        refine hK.out _ _ ?_ (fun hNew => ?_)
        · (refine HS.out _ ?_; first | (with_reducible exact hS9) | (with_reducible exact hS9.drew) | (with_reducible exact hS8) | (with_reducible exact hS8.drew) | (refine hBw.trans (Below.mono ?_ hBw.size); repeat (first | (with_reducible assumption) | (with_reducible exact Below.refl _ _) | (with_reducible refine Below.drew ?_) | (with_reducible refine below_drewN' ?_ _) | (with_reducible refine below_al ?_) | ((with_reducible refine below_set ?_ ?_); rotate_left; focus (first | (simp; done) | (simp; omega))))))
        clear hK K hHeld; have hHeld := hNew; clear hNew
        (try simp only [Act.put, List.setIfInBounds_toArray, List.set_cons_zero, List.set_cons_succ])
        refine wpAnyH_ready (rs := [1]) (by kernel_rfl) (by simp) ?_
        refine AllReadyH.cons (o := ?_) ?_ (fun K hK => ?_) AllReadyH.nil; rotate_left 1
        · ((try simp only [List.getElem?_toArray, List.getElem?_cons_succ, List.getElem?_cons_zero]); rfl)
        go_simp
        refine (trim_c (some ⟨w0.heap.size, 0, none⟩) la la L HLA.out.symm HPL.out (by rw [HLA.out]; omega) (by rw [HLA.out]; omega) _ (HDI.out.below (by repeat (first | (with_reducible assumption) | (with_reducible exact Below.refl _ _) | (with_reducible refine Below.drew ?_) | (with_reducible refine below_drewN' ?_ _) | (with_reducible refine below_al ?_) | ((with_reducible refine below_set ?_ ?_); rotate_left; focus (first | (simp; done) | (simp; omega))))))).mono ?_; intro e wT hbr; rw [HQD.out.1] at hbr; obtain ⟨TA, tc, rfl, hT, hbT⟩ := hbr
        have hBT : Below wr.heap.size wr wT := below_step (w := wr) hbT (by repeat (first | (with_reducible assumption) | (with_reducible exact Below.refl _ _) | (with_reducible refine Below.drew ?_) | (with_reducible refine below_drewN' ?_ _) | (with_reducible refine below_al ?_) | ((with_reducible refine below_set ?_ ?_); rotate_left; focus (first | (simp; done) | (simp; omega)))))
        have k3 := below_some hBT _ _ _ g3
        have k4 := below_some hBT _ _ _ gr4; have k5 := below_some hBT _ _ _ gr5
        have m4 := (hBT.frozen (p := ⟨w.heap.size + 1 + 1, 0, none⟩) lr4).trans gf4; have m5 := (hBT.frozen (p := ⟨w.heap.size + 1 + 1 + 1, 0, none⟩) lr5).trans gf5
        have zT := hBT.size
        (try go_wp2_with fail)
        refine hK.out _ _ ?_ (fun hNew => ?_)
        · (refine HS.out _ ?_; first | (with_reducible exact hS9) | (with_reducible exact hS9.drew) | (with_reducible exact hS8) | (with_reducible exact hS8.drew) | (refine hBw.trans (Below.mono ?_ hBw.size); repeat (first | (with_reducible assumption) | (with_reducible exact Below.refl _ _) | (with_reducible refine Below.drew ?_) | (with_reducible refine below_drewN' ?_ _) | (with_reducible refine below_al ?_) | ((with_reducible refine below_set ?_ ?_); rotate_left; focus (first | (simp; done) | (simp; omega))))))
        clear hK K hHeld; have hHeld := hNew; clear hNew
        (try simp only [Act.put, List.setIfInBounds_toArray, List.set_cons_zero, List.set_cons_succ])
        refine wpAnyH_ready (rs := [3]) (by kernel_rfl) (by simp) ?_
        refine AllReadyH.cons (o := ?_) ?_ (fun K hK => ?_) AllReadyH.nil; rotate_left 1
        · ((try simp only [List.getElem?_toArray, List.getElem?_cons_succ, List.getElem?_cons_zero]); rfl)
        have hS8 : Below w.heap.size w (wT.setCell ⟨w.heap.size + 1 + 1, 0, none⟩ (.slice TA (dg (n / m)).length tc)) := below_set (hBw.trans (hBT.mono hBw.size)) (by simp; omega)
        go_simp
        refine hK.out _ _ ?_ (fun hNew => ?_)
        · (refine HS.out _ ?_; first | (with_reducible exact hS9) | (with_reducible exact hS9.drew) | (with_reducible exact hS8) | (with_reducible exact hS8.drew) | (refine hBw.trans (Below.mono ?_ hBw.size); repeat (first | (with_reducible assumption) | (with_reducible exact Below.refl _ _) | (with_reducible refine Below.drew ?_) | (with_reducible refine below_drewN' ?_ _) | (with_reducible refine below_al ?_) | ((with_reducible refine below_set ?_ ?_); rotate_left; focus (first | (simp; done) | (simp; omega))))))
        clear hK K hHeld; have hHeld := hNew; clear hNew
        (try simp only [Act.put, List.setIfInBounds_toArray, List.set_cons_zero, List.set_cons_succ])
        refine wpAnyH_ready (rs := [4]) (by kernel_rfl) (by simp) ?_
        refine AllReadyH.cons (o := ?_) ?_ (fun K hK => ?_) AllReadyH.nil; rotate_left 1
        · ((try simp only [List.getElem?_toArray, List.getElem?_cons_succ, List.getElem?_cons_zero]); rfl)
        have hS9 : Below w.heap.size w ((wT.setCell ⟨w.heap.size + 1 + 1, 0, none⟩ (.slice TA (dg (n / m)).length tc)).setCell ⟨w.heap.size + 1 + 1 + 1, 0, none⟩ (.slice A l c)) := below_set hS8 (by simp; omega)
        go_simp
        refine hK.out _ _ ?_ (fun hNew => ?_)
        · (refine HS.out _ ?_; first | (with_reducible exact hS9) | (with_reducible exact hS9.drew) | (with_reducible exact hS8) | (with_reducible exact hS8.drew) | (refine hBw.trans (Below.mono ?_ hBw.size); repeat (first | (with_reducible assumption) | (with_reducible exact Below.refl _ _) | (with_reducible refine Below.drew ?_) | (with_reducible refine below_drewN' ?_ _) | (with_reducible refine below_al ?_) | ((with_reducible refine below_set ?_ ?_); rotate_left; focus (first | (simp; done) | (simp; omega))))))
        clear hK K hHeld; have hHeld := hNew; clear hNew
        (try simp only [Act.put, List.setIfInBounds_toArray, List.set_cons_zero, List.set_cons_succ])
        refine wpAnyH_done (by kernel_rfl) ?_ _
        have zw := HZ0.out
        have k4' := T1 wT (.slice TA (dg (n / m)).length tc) k4
        have hDA := Lib.hid (((hT.set (k := w.heap.size + 1 + 1) (i := 0) (u := .slice TA (dg (n / m)).length tc) (Or.inl (by first | omega | (simp; omega)))).set (k := w.heap.size + 1 + 1 + 1) (i := 0) (u := .slice A l c) (Or.inl (by first | omega | (simp; omega)))))
        have hDB := Lib.hid ((((hD.out.below hBT).set (k := w.heap.size + 1 + 1) (i := 0) (u := .slice TA (dg (n / m)).length tc) (Or.inl (by first | omega | (simp; omega)))).set (k := w.heap.size + 1 + 1 + 1) (i := 0) (u := .slice A l c) (Or.inl (by first | omega | (simp; omega)))))
        have HS9 := Lib.hid hS9; clear hS8 hS9 HS hHeld zw
        go_wp2_with fail
        have hr9 := HQD.out.2
        subst hr9
        have hl9 := hl.out
        subst hl9
        have zw := HZ0.out
        refine bodyPost_ret (v := .tuple #[.agg #[.slice TA (dg (n / m)).length tc], .agg #[.slice A (dg (n % m)).length c]]) (by simp [results, Tryd.results84, go_sem, k4', k5]) rfl ?_
        exact ⟨TA, tc, A, c, rfl, hDA.out.wide (by simp; omega) (by simp), hDB.out.wide (by omega) (by simp; omega), HS9.out⟩
    | succ k =>
      have e0 : ((k + 1 : Nat) : Int) - 1 = (k : Int) := by omega
      rw [e0]
      have kz : decide ((0 : Int) ≤ (k : Int)) = true := decide_eq_true (by omega)
      have kz0 : (0 : Int) ≤ (k : Int) := by omega
      have kzl : (k : Int) < (la : Int) := by omega
      have s1 : IntKind.i64.wrap ((k : Int) - 1) = (k : Int) - 1 := IntWalk.i64_in _ (by omega)
      have gx := below_some hBr.out _ _ _ (HCA.out k (by omega))
      have HX : ∃ x, pt n k = x := ⟨_, rfl⟩
      obtain ⟨x, hx⟩ := HX
      have xb := pt_bd n k; rw [hx] at xb gx
      have HX := Lib.hid hx; clear hx
      have hll : l ≤ 1000 := by (have h1 := dg_mono (Nat.le_of_lt hrm.out); rw [hl.out, hlb.out] at h1; omega)
      have HP : Hid (PartL (x :: dg r)) := Lib.hid (fun z hz => by rcases List.mem_cons.1 hz with e | e; exact e ▸ xb; exact dg_parts r z e)
      have HV : Hid ((vl (x :: dg r)).toNat = nextR n k r) := Lib.hid (by rw [← HX.out]; exact nextR_val n k r)
      have hRf : Below wr.heap.size wr wr := Below.refl _ _
      have HDI : Hid (DIn wr A (dg r)) := Lib.hid (hD.out.to (Nat.le_refl _))
      go_wp2_with fail
      go_cut [] (fun wx => ∃ (T : Option Addr) (tc : Nat), wx.heap[w0.heap.size + 1]? = some (.cells #[.slice T (dg (nextR n k r)).length tc] 102 (0, 0)) ∧ wx.heap[w0.heap.size]? = some (.cells (ints L).toArray 3 (0, 0)) ∧ DBt wx (w0.heap.size + 2) wx.heap.size T (dg (nextR n k r)) ∧ Below w0.heap.size w0 wx)
      case first =>
        have HS : Hid (∀ W, Below w0.heap.size w0 W → (fun W' => Below w0.heap.size w0 W' ∧ W'.cell? ⟨w.heap.size, 0, none⟩ = some (.slice (some ⟨ba, oa, none⟩) la ca) ∧ W'.cell? ⟨ba, oa + k, none⟩ = some (.int .i64 x)) W) := Lib.hid (fun W h => ⟨h, below_some h _ _ _ GA.out, by have h2 := below_some h _ _ _ (HCA.out k (by omega)); rw [HX.out] at h2; exact h2⟩)
        refine wp_region_held_drew (S := (fun W' => Below w0.heap.size w0 W' ∧ W'.cell? ⟨w.heap.size, 0, none⟩ = some (.slice (some ⟨ba, oa, none⟩) la ca) ∧ W'.cell? ⟨ba, oa + k, none⟩ = some (.int .i64 x))) (by kernel_rfl) ?_ (fun hHeld => ?_)
        · exact HS.out _ hBr.out.drew
        refine wpAnyH_take (i := 0) (oi := ?_) (v := ?_) ?_ (by kernel_rfl) (by kernel_rfl) (by kernel_rfl) ?_ (Or.inl ⟨?_, ?_⟩) (by assumption) ?_; rotate_left 2
        · ((try simp only [List.getElem?_toArray, List.getElem?_cons_succ, List.getElem?_cons_zero]); rfl)
        · exact (fun _ _ _ h => h)
        · rfl
        · (intro w hSw; (try dsimp only at hSw); go_simp; (try with_reducible rfl))
        (try simp only [Act.put, List.setIfInBounds_toArray, List.set_cons_zero, List.set_cons_succ])
        refine wpAnyH_take (i := 1) (oi := ?_) (v := ?_) ?_ (by kernel_rfl) (by kernel_rfl) (by kernel_rfl) ?_ (Or.inl ⟨?_, ?_⟩) (by assumption) ?_; rotate_left 2
        · ((try simp only [List.getElem?_toArray, List.getElem?_cons_succ, List.getElem?_cons_zero]); rfl)
        · exact (fun _ _ _ h => h)
        · rfl
        · (intro w hSw; (try dsimp only at hSw); go_simp; (try with_reducible rfl))
        (try simp only [Act.put, List.setIfInBounds_toArray, List.set_cons_zero, List.set_cons_succ])
        refine wpAnyH_take (i := 2) (oi := ?_) (v := ?_) ?_ (by kernel_rfl) (by kernel_rfl) (by kernel_rfl) ?_ (Or.inl ⟨?_, ?_⟩) (by assumption) ?_; rotate_left 2
        · ((try simp only [List.getElem?_toArray, List.getElem?_cons_succ, List.getElem?_cons_zero]); rfl)
        · exact (fun _ _ _ h => h)
        · rfl
        · (intro w hSw; (try dsimp only at hSw); go_simp; (try with_reducible rfl))
        (try simp only [Act.put, List.setIfInBounds_toArray, List.set_cons_zero, List.set_cons_succ])
        refine wpAnyH_take (i := 3) (oi := ?_) (v := ?_) ?_ (by kernel_rfl) (by kernel_rfl) (by kernel_rfl) ?_ (Or.inl ⟨?_, ?_⟩) (by assumption) ?_; rotate_left 2
        · ((try simp only [List.getElem?_toArray, List.getElem?_cons_succ, List.getElem?_cons_zero]); rfl)
        · exact (fun _ _ _ h => h)
        · rfl
        · (intro w hSw; (try dsimp only at hSw); go_simp; (try with_reducible rfl))
        (try simp only [Act.put, List.setIfInBounds_toArray, List.set_cons_zero, List.set_cons_succ])
        refine wpAnyH_take (i := 4) (oi := ?_) (v := ?_) ?_ (by kernel_rfl) (by kernel_rfl) (by kernel_rfl) ?_ (Or.inl ⟨?_, ?_⟩) (by assumption) ?_; rotate_left 2
        · ((try simp only [List.getElem?_toArray, List.getElem?_cons_succ, List.getElem?_cons_zero]); rfl)
        · exact (fun _ _ _ h => h)
        · rfl
        · (intro w hSw; (try dsimp only at hSw); go_simp; (try with_reducible rfl))
        (try simp only [Act.put, List.setIfInBounds_toArray, List.set_cons_zero, List.set_cons_succ])
        refine wpAnyH_take (i := 6) (oi := ?_) (v := ?_) ?_ (by kernel_rfl) (by kernel_rfl) (by kernel_rfl) ?_ (Or.inl ⟨?_, ?_⟩) (by assumption) ?_; rotate_left 2
        · ((try simp only [List.getElem?_toArray, List.getElem?_cons_succ, List.getElem?_cons_zero]); rfl)
        · exact (fun _ _ _ h => h)
        · rfl
        · (intro w hSw; (try dsimp only at hSw); go_simp; (try with_reducible rfl))
        (try simp only [Act.put, List.setIfInBounds_toArray, List.set_cons_zero, List.set_cons_succ])
        refine wpAnyH_ready (rs := [5, 7]) (by kernel_rfl) (by simp) ?_
        refine AllReadyH.cons (o := ?o5) ?h5 ?s5 (AllReadyH.cons (o := ?o7) ?h7 ?s7 AllReadyH.nil)
        case h5 => ((try simp only [List.getElem?_toArray, List.getElem?_cons_succ, List.getElem?_cons_zero]); rfl)
        case h7 => ((try simp only [List.getElem?_toArray, List.getElem?_cons_succ, List.getElem?_cons_zero]); rfl)
        case s5 =>
          intro K hK
          go_simp
          refine hK.out _ _ ?_ (fun hNew => ?_)
          · (refine HS.out _ ?_; have hW0 := hBr.out; (first | exact hS8 | (refine hW0.trans (Below.mono ?_ hW0.size); repeat (first | (with_reducible assumption) | (with_reducible exact Below.refl _ _) | (with_reducible refine Below.drew ?_) | (with_reducible refine below_drewN' ?_ _) | (with_reducible refine below_al ?_) | ((with_reducible refine below_set ?_ ?_); rotate_left; focus (first | (simp; done) | (simp; omega)))))))
          clear hK K hHeld; have hHeld := hNew; clear hNew
          (try simp only [Act.put, List.setIfInBounds_toArray, List.set_cons_zero, List.set_cons_succ])
          refine wpAnyH_ready (rs := [7]) (by kernel_rfl) (by simp) ?_
          refine AllReadyH.cons (o := ?_) ?_ (fun K hK => ?_) AllReadyH.nil; rotate_left 1
          · ((try simp only [List.getElem?_toArray, List.getElem?_cons_succ, List.getElem?_cons_zero]); rfl)
          go_simp
          refine hK.out _ _ ?_ (fun hNew => ?_)
          · (refine HS.out _ ?_; have hW0 := hBr.out; (first | exact hS8 | (refine hW0.trans (Below.mono ?_ hW0.size); repeat (first | (with_reducible assumption) | (with_reducible exact Below.refl _ _) | (with_reducible refine Below.drew ?_) | (with_reducible refine below_drewN' ?_ _) | (with_reducible refine below_al ?_) | ((with_reducible refine below_set ?_ ?_); rotate_left; focus (first | (simp; done) | (simp; omega)))))))
          clear hK K hHeld; have hHeld := hNew; clear hNew
          (try simp only [Act.put, List.setIfInBounds_toArray, List.set_cons_zero, List.set_cons_succ])
          refine wpAnyH_ready (rs := [8]) (by kernel_rfl) (by simp) ?_
          refine AllReadyH.cons (o := ?_) ?_ (fun K hK => ?_) AllReadyH.nil; rotate_left 1
          · ((try simp only [List.getElem?_toArray, List.getElem?_cons_succ, List.getElem?_cons_zero]); rfl)
          rw [if_pos (by rfl)]
          refine wpOper_app_in (.tmp 30) (.tmp 32) _ rfl wr.heap.size 3 i0 _ 1 8 Tryd.underlying100 hi0 hz0 hs0 hb0 (by rfl) (by decide) (.slice (some ⟨_, 0, none⟩) 1 1) 1 (ints [x]) rfl (own_made (x := x) (by repeat (first | (with_reducible refine blk_dr ?_) | (refine blk_nu (by first | (simp; done) | omega)))) (by first | omega | (simp; done))) A l c (ints (dg r)) rfl (by rw [← hl.out]; exact (HDI.out.below (by repeat (first | (with_reducible assumption) | (with_reducible exact Below.refl _ _) | (with_reducible refine Below.drew ?_) | (with_reducible refine below_drewN' ?_ _) | (with_reducible refine below_al ?_) | ((with_reducible refine below_set ?_ ?_); rotate_left; focus (first | (simp; done) | (simp; omega)))))).src) (ints_one _) (by unfold maxLen; omega) (by omega) (by first | omega | (simp; done) | (simp; omega)) ?_
          intro v1 w6 hown0 hg1
          have hown1 : w6.ownsRow wr.heap.size 3 1 v1 (1 + l) (ints (x :: dg r)) := hown0
          clear hown0
          obtain ⟨D1, c1, rfl, hD1⟩ := owns_days hown1
          have hroom := owns_room hown1
          have hb6 : Below wr.heap.size wr w6 := Below.grown (by repeat (first | (with_reducible assumption) | (with_reducible exact Below.refl _ _) | (with_reducible refine Below.drew ?_) | (with_reducible refine below_drewN' ?_ _) | (with_reducible refine below_al ?_) | ((with_reducible refine below_set ?_ ?_); rotate_left; focus (first | (simp; done) | (simp; omega))))) hg1 (by first | omega | (simp; done) | (simp; omega)) (fun q hq => by cases hq; first | omega | (simp; done))
          refine hK.out _ _ ?_ (fun hNew => ?_)
          · (refine HS.out _ ?_; have hW0 := hBr.out; (first | exact hS8 | (refine hW0.trans (Below.mono ?_ hW0.size); repeat (first | (with_reducible assumption) | (with_reducible exact Below.refl _ _) | (with_reducible refine Below.drew ?_) | (with_reducible refine below_drewN' ?_ _) | (with_reducible refine below_al ?_) | ((with_reducible refine below_set ?_ ?_); rotate_left; focus (first | (simp; done) | (simp; omega)))))))
          clear hK K hHeld; have hHeld := hNew; clear hNew
          (try simp only [Act.put, List.setIfInBounds_toArray, List.set_cons_zero, List.set_cons_succ])
          refine wpAnyH_ready (rs := [9]) (by kernel_rfl) (by simp) ?_
          refine AllReadyH.cons (o := ?_) ?_ (fun K hK => ?_) AllReadyH.nil; rotate_left 1
          · ((try simp only [List.getElem?_toArray, List.getElem?_cons_succ, List.getElem?_cons_zero]); rfl)
          go_simp
          have HT := trim_c D1 c1 _ (x :: dg r) rfl HP.out (by have := hroom; have := hl.out; simp; omega) (by have := hl.out; simp; omega) _ (hD1.below (by have := Below.refl w6.heap.size w6; repeat (first | (with_reducible assumption) | (with_reducible exact Below.refl _ _) | (with_reducible refine Below.drew ?_) | (with_reducible refine below_drewN' ?_ _) | (with_reducible refine below_al ?_) | ((with_reducible refine below_set ?_ ?_); rotate_left; focus (first | (simp; done) | (simp; omega))))))
          rw [HV.out] at HT
          refine HT.mono ?_; rintro e w7 ⟨T, tc, rfl, hT, hb7⟩
          have hb76 := below_step (w := wr) hb7 (by repeat (first | (with_reducible assumption) | (with_reducible exact Below.refl _ _) | (with_reducible refine Below.drew ?_) | (with_reducible refine below_drewN' ?_ _) | (with_reducible refine below_al ?_) | ((with_reducible refine below_set ?_ ?_); rotate_left; focus (first | (simp; done) | (simp; omega)))))
          have g3b := below_some hb76 _ _ _ g3; have g3c := (hb76.frozen (p := ⟨w0.heap.size + 1, 0, none⟩) hzr2).trans g3f
          (try go_wp2_with fail)
          refine hK.out _ _ ?_ (fun hNew => ?_)
          · (refine HS.out _ ?_; have hW0 := hBr.out; (first | exact hS8 | (refine hW0.trans (Below.mono ?_ hW0.size); repeat (first | (with_reducible assumption) | (with_reducible exact Below.refl _ _) | (with_reducible refine Below.drew ?_) | (with_reducible refine below_drewN' ?_ _) | (with_reducible refine below_al ?_) | ((with_reducible refine below_set ?_ ?_); rotate_left; focus (first | (simp; done) | (simp; omega)))))))
          clear hK K hHeld; have hHeld := hNew; clear hNew
          (try simp only [Act.put, List.setIfInBounds_toArray, List.set_cons_zero, List.set_cons_succ])
          refine wpAnyH_ready (rs := [10]) (by kernel_rfl) (by simp) ?_
          refine AllReadyH.cons (o := ?_) ?_ (fun K hK => ?_) AllReadyH.nil; rotate_left 1
          · ((try simp only [List.getElem?_toArray, List.getElem?_cons_succ, List.getElem?_cons_zero]); rfl)
          have hS8 : Below w0.heap.size w0 (w7.setCell ⟨w0.heap.size + 1, 0, none⟩ (.slice T (dg (nextR n k r)).length tc)) := below_set (hBr.out.trans (hb76.mono hBr.out.size)) (by simp)
          go_simp
          refine hK.out _ _ ?_ (fun hNew => ?_)
          · (refine HS.out _ ?_; first | exact hS8 | exact hS8.drew)
          clear hK K hHeld; have hHeld := hNew; clear hNew
          (try simp only [Act.put, List.setIfInBounds_toArray, List.set_cons_zero, List.set_cons_succ])
          refine wpAnyH_done (by kernel_rfl) ?_ _
          go_wp2_with fail
          go_meet
          have hR9 : (w7.setCell ⟨w0.heap.size + 1, 0, none⟩ (.slice T (dg (nextR n k r)).length tc)).heap[w0.heap.size + 1]? = some (.cells #[.slice T (dg (nextR n k r)).length tc] 102 (0, 0)) := by (have h := blk_set (i := 0) (u := .slice T (dg (nextR n k r)).length tc) (blk_st hb76 hR.out); simpa using h)
          have zz6 := hb6.size; have zz7 := hb76.size
          exact ⟨T, tc, hR9, blk_off (by omega) (blk_st hb76 hG.out), (hT.set (Or.inl (by omega))).wide (by omega) (by simp), hS8⟩
        case s7 =>
          intro K hK
          go_simp
          refine hK.out _ _ ?_ (fun hNew => ?_)
          · (refine HS.out _ ?_; have hW0 := hBr.out; (first | exact hS8 | (refine hW0.trans (Below.mono ?_ hW0.size); repeat (first | (with_reducible assumption) | (with_reducible exact Below.refl _ _) | (with_reducible refine Below.drew ?_) | (with_reducible refine below_drewN' ?_ _) | (with_reducible refine below_al ?_) | ((with_reducible refine below_set ?_ ?_); rotate_left; focus (first | (simp; done) | (simp; omega)))))))
          clear hK K hHeld; have hHeld := hNew; clear hNew
          (try simp only [Act.put, List.setIfInBounds_toArray, List.set_cons_zero, List.set_cons_succ])
          refine wpAnyH_ready (rs := [5]) (by kernel_rfl) (by simp) ?_
          refine AllReadyH.cons (o := ?_) ?_ (fun K hK => ?_) AllReadyH.nil; rotate_left 1
          · ((try simp only [List.getElem?_toArray, List.getElem?_cons_succ, List.getElem?_cons_zero]); rfl)
          go_simp
          refine hK.out _ _ ?_ (fun hNew => ?_)
          · (refine HS.out _ ?_; have hW0 := hBr.out; (first | exact hS8 | (refine hW0.trans (Below.mono ?_ hW0.size); repeat (first | (with_reducible assumption) | (with_reducible exact Below.refl _ _) | (with_reducible refine Below.drew ?_) | (with_reducible refine below_drewN' ?_ _) | (with_reducible refine below_al ?_) | ((with_reducible refine below_set ?_ ?_); rotate_left; focus (first | (simp; done) | (simp; omega)))))))
          clear hK K hHeld; have hHeld := hNew; clear hNew
          (try simp only [Act.put, List.setIfInBounds_toArray, List.set_cons_zero, List.set_cons_succ])
          refine wpAnyH_ready (rs := [8]) (by kernel_rfl) (by simp) ?_
          refine AllReadyH.cons (o := ?_) ?_ (fun K hK => ?_) AllReadyH.nil; rotate_left 1
          · ((try simp only [List.getElem?_toArray, List.getElem?_cons_succ, List.getElem?_cons_zero]); rfl)
          rw [if_pos (by rfl)]
          refine wpOper_app_in (.tmp 30) (.tmp 32) _ rfl wr.heap.size 3 i0 _ 1 8 Tryd.underlying100 hi0 hz0 hs0 hb0 (by rfl) (by decide) (.slice (some ⟨_, 0, none⟩) 1 1) 1 (ints [x]) rfl (own_made (x := x) (by repeat (first | (with_reducible refine blk_dr ?_) | (refine blk_nu (by first | (simp; done) | omega)))) (by first | omega | (simp; done))) A l c (ints (dg r)) rfl (by rw [← hl.out]; exact (HDI.out.below (by repeat (first | (with_reducible assumption) | (with_reducible exact Below.refl _ _) | (with_reducible refine Below.drew ?_) | (with_reducible refine below_drewN' ?_ _) | (with_reducible refine below_al ?_) | ((with_reducible refine below_set ?_ ?_); rotate_left; focus (first | (simp; done) | (simp; omega)))))).src) (ints_one _) (by unfold maxLen; omega) (by omega) (by first | omega | (simp; done) | (simp; omega)) ?_
          intro v1 w6 hown0 hg1
          have hown1 : w6.ownsRow wr.heap.size 3 1 v1 (1 + l) (ints (x :: dg r)) := hown0
          clear hown0
          obtain ⟨D1, c1, rfl, hD1⟩ := owns_days hown1
          have hroom := owns_room hown1
          have hb6 : Below wr.heap.size wr w6 := Below.grown (by repeat (first | (with_reducible assumption) | (with_reducible exact Below.refl _ _) | (with_reducible refine Below.drew ?_) | (with_reducible refine below_drewN' ?_ _) | (with_reducible refine below_al ?_) | ((with_reducible refine below_set ?_ ?_); rotate_left; focus (first | (simp; done) | (simp; omega))))) hg1 (by first | omega | (simp; done) | (simp; omega)) (fun q hq => by cases hq; first | omega | (simp; done))
          refine hK.out _ _ ?_ (fun hNew => ?_)
          · (refine HS.out _ ?_; have hW0 := hBr.out; (first | exact hS8 | (refine hW0.trans (Below.mono ?_ hW0.size); repeat (first | (with_reducible assumption) | (with_reducible exact Below.refl _ _) | (with_reducible refine Below.drew ?_) | (with_reducible refine below_drewN' ?_ _) | (with_reducible refine below_al ?_) | ((with_reducible refine below_set ?_ ?_); rotate_left; focus (first | (simp; done) | (simp; omega)))))))
          clear hK K hHeld; have hHeld := hNew; clear hNew
          (try simp only [Act.put, List.setIfInBounds_toArray, List.set_cons_zero, List.set_cons_succ])
          refine wpAnyH_ready (rs := [9]) (by kernel_rfl) (by simp) ?_
          refine AllReadyH.cons (o := ?_) ?_ (fun K hK => ?_) AllReadyH.nil; rotate_left 1
          · ((try simp only [List.getElem?_toArray, List.getElem?_cons_succ, List.getElem?_cons_zero]); rfl)
          go_simp
          have HT := trim_c D1 c1 _ (x :: dg r) rfl HP.out (by have := hroom; have := hl.out; simp; omega) (by have := hl.out; simp; omega) _ (hD1.below (by have := Below.refl w6.heap.size w6; repeat (first | (with_reducible assumption) | (with_reducible exact Below.refl _ _) | (with_reducible refine Below.drew ?_) | (with_reducible refine below_drewN' ?_ _) | (with_reducible refine below_al ?_) | ((with_reducible refine below_set ?_ ?_); rotate_left; focus (first | (simp; done) | (simp; omega))))))
          rw [HV.out] at HT
          refine HT.mono ?_; rintro e w7 ⟨T, tc, rfl, hT, hb7⟩
          have hb76 := below_step (w := wr) hb7 (by repeat (first | (with_reducible assumption) | (with_reducible exact Below.refl _ _) | (with_reducible refine Below.drew ?_) | (with_reducible refine below_drewN' ?_ _) | (with_reducible refine below_al ?_) | ((with_reducible refine below_set ?_ ?_); rotate_left; focus (first | (simp; done) | (simp; omega)))))
          have g3b := below_some hb76 _ _ _ g3; have g3c := (hb76.frozen (p := ⟨w0.heap.size + 1, 0, none⟩) hzr2).trans g3f
          (try go_wp2_with fail)
          refine hK.out _ _ ?_ (fun hNew => ?_)
          · (refine HS.out _ ?_; have hW0 := hBr.out; (first | exact hS8 | (refine hW0.trans (Below.mono ?_ hW0.size); repeat (first | (with_reducible assumption) | (with_reducible exact Below.refl _ _) | (with_reducible refine Below.drew ?_) | (with_reducible refine below_drewN' ?_ _) | (with_reducible refine below_al ?_) | ((with_reducible refine below_set ?_ ?_); rotate_left; focus (first | (simp; done) | (simp; omega)))))))
          clear hK K hHeld; have hHeld := hNew; clear hNew
          (try simp only [Act.put, List.setIfInBounds_toArray, List.set_cons_zero, List.set_cons_succ])
          refine wpAnyH_ready (rs := [10]) (by kernel_rfl) (by simp) ?_
          refine AllReadyH.cons (o := ?_) ?_ (fun K hK => ?_) AllReadyH.nil; rotate_left 1
          · ((try simp only [List.getElem?_toArray, List.getElem?_cons_succ, List.getElem?_cons_zero]); rfl)
          have hS8 : Below w0.heap.size w0 (w7.setCell ⟨w0.heap.size + 1, 0, none⟩ (.slice T (dg (nextR n k r)).length tc)) := below_set (hBr.out.trans (hb76.mono hBr.out.size)) (by simp)
          go_simp
          refine hK.out _ _ ?_ (fun hNew => ?_)
          · (refine HS.out _ ?_; first | exact hS8 | exact hS8.drew)
          clear hK K hHeld; have hHeld := hNew; clear hNew
          (try simp only [Act.put, List.setIfInBounds_toArray, List.set_cons_zero, List.set_cons_succ])
          refine wpAnyH_done (by kernel_rfl) ?_ _
          go_wp2_with fail
          go_meet
          have hR9 : (w7.setCell ⟨w0.heap.size + 1, 0, none⟩ (.slice T (dg (nextR n k r)).length tc)).heap[w0.heap.size + 1]? = some (.cells #[.slice T (dg (nextR n k r)).length tc] 102 (0, 0)) := by (have h := blk_set (i := 0) (u := .slice T (dg (nextR n k r)).length tc) (blk_st hb76 hR.out); simpa using h)
          have zz6 := hb6.size; have zz7 := hb76.size
          exact ⟨T, tc, hR9, blk_off (by omega) (blk_st hb76 hG.out), (hT.set (Or.inl (by omega))).wide (by omega) (by simp), hS8⟩
      case rest =>
        obtain ⟨T, tc, hR2, hG2, hD2, hB2⟩ := hcut
        have hNl := nextR_lt (n := n) (k := k) hm hrm.out
        obtain ⟨nr, hnr⟩ : ∃ nr, nextR n k r = nr := ⟨_, rfl⟩
        rw [hnr] at hR2 hD2 hNl HV
        obtain ⟨l2, hl2⟩ : ∃ l2, (dg nr).length = l2 := ⟨_, rfl⟩
        rw [hl2] at hR2
        have HNR := Lib.hid hnr; have HL2 := Lib.hid hl2; have HNL := Lib.hid hNl; clear hnr hl2 hNl
        have hl2b : l2 ≤ 1002 := by (have h1 := dg_mono (Nat.le_of_lt HNL.out); have h2 := dg_mul_len (m := m) (k := 10000) (Nat.le_refl _); rw [HL2.out] at h1; rw [hlb.out] at h2; omega)
        have HR2 := Lib.hid hR2; have HG2 := Lib.hid hG2; have HD2 := Lib.hid hD2; have HB2 := Lib.hid hB2; clear hR2 hG2 hD2 hB2
        have HTI : Hid (DIn wc T (dg nr)) := Lib.hid (HD2.out.to (Nat.le_refl _))
        clear g1 g2 g3 g3f gx hzr hzr2 hG hR hD hBr HDI hRf
        have zc := blk_lt HR2.out
        go_wp2_with fail
        go_loopw [9, 10] (fun a b wr => ∃ lo hi : Nat, a = .int .i64 (lo : Int) ∧ b = .int .i64 (hi : Int) ∧ lo < hi ∧ hi ≤ 10000 ∧ Hid (m * lo ≤ nr ∧ nr < m * hi) ∧ Hid (Below wc.heap.size wc wr)) (fun a b _ => (intOf b - intOf a).toNat)
        case atStart => exact ⟨0, 10000, rfl, rfl, by omega, by omega, Lib.hid ⟨by omega, HNL.out⟩, Lib.hid (Below.refl _ _)⟩
        case round =>
          obtain ⟨lo, hi, rfl, rfl, hlh, hhi, hBD, hBv⟩ := hrel
          have gb := below_some hBv.out _ _ _ (below_some HB2.out _ _ _ GB.out)
          have gt := below_some hBv.out _ _ _ (blk_cell HR2.out (show (#[.slice T l2 tc] : Array Value)[0]? = some _ from rfl))
          have t1 : IntKind.i64.wrap ((hi : Int) - (lo : Int)) = (hi : Int) - lo := IntWalk.i64_in _ (by omega)
          by_cases hgo : lo + 1 < hi
          · have d1 : decide ((1 : Int) < (hi : Int) - (lo : Int)) = true := decide_eq_true (by omega)
            obtain ⟨mid, hmid⟩ : ∃ mid : Nat, mid = (lo + hi) / 2 := ⟨_, rfl⟩
            have mb : lo < mid ∧ mid < hi := by omega
            have t2 : IntKind.i64.wrap ((lo : Int) + (hi : Int)) = (lo : Int) + hi := IntWalk.i64_in _ (by omega)
            have t3 : ((lo : Int) + (hi : Int)).tdiv 2 = (mid : Int) := by rw [Int.tdiv_eq_ediv_of_nonneg (by omega)]; omega
            have t4 : IntKind.i64.wrap (mid : Int) = (mid : Int) := IntWalk.i64_in _ (by omega)
            obtain ⟨cv, hcv⟩ : ∃ cv, cmpI (m * mid) nr = cv := ⟨_, rfl⟩
            have HCV := Lib.hid hcv; clear hcv hmid
            have hRf : Below wr.heap.size wr wr := Below.refl _ _
            have HBv2 := Lib.hid (HB.out.below (HB2.out.trans (hBv.out.mono HB2.out.size))); have HTv := Lib.hid (HTI.out.below hBv.out)
            have ml : (dg mid).length ≤ 2 := dg_le (by (have : (10000 : Nat) ^ 2 = 100000000 := rfl); omega)
            have pl := dg_mul_len (m := m) (k := mid) (by omega)
            rw [hlb.out] at pl
            have HS : Hid (∀ W, Below wr.heap.size wr W → (fun W' => Below wr.heap.size wr W' ∧ W'.cell? ⟨w.heap.size + 1, 0, none⟩ = some (.slice B lb cb) ∧ W'.cell? ⟨w0.heap.size + 1, 0, none⟩ = some (.slice T l2 tc)) W) := Lib.hid (fun W h => ⟨h, below_some h _ _ _ gb, below_some h _ _ _ gt⟩)
            go_wp2_with fail
            go_region_held3 (fun W' => Below wr.heap.size wr W' ∧ W'.cell? ⟨w.heap.size + 1, 0, none⟩ = some (.slice B lb cb) ∧ W'.cell? ⟨w0.heap.size + 1, 0, none⟩ = some (.slice T l2 tc)) ((refine HS.out _ ?_; repeat (first | (with_reducible assumption) | (with_reducible exact Below.refl _ _) | (with_reducible refine Below.drew ?_) | (with_reducible refine below_drewN' ?_ _) | (with_reducible refine below_al ?_) | ((with_reducible refine below_set ?_ ?_); rotate_left; focus (first | (simp; done) | (simp; omega)))))) (first | (go_at_call 70; refine (from_c mid (by omega) _).mono ?_; rintro e wq ⟨FA, fc, rfl, hF, hbq⟩; have hBF := below_step (w := wr) hbq (by repeat (first | (with_reducible assumption) | (with_reducible exact Below.refl _ _) | (with_reducible refine Below.drew ?_) | (with_reducible refine below_drewN' ?_ _) | (with_reducible refine below_al ?_) | ((with_reducible refine below_set ?_ ?_); rotate_left; focus (first | (simp; done) | (simp; omega))))); have hFI := hF.to (Nat.le_refl _); clear hbq hF) | (go_at_call 74; refine (bprod_c B FA cb fc m mid lb _ hlb (Lib.hid rfl) (by omega) (by omega) _ (HBv2.out.below (by repeat (first | (with_reducible assumption) | (with_reducible exact Below.refl _ _) | (with_reducible refine Below.drew ?_) | (with_reducible refine below_drewN' ?_ _) | (with_reducible refine below_al ?_) | ((with_reducible refine below_set ?_ ?_); rotate_left; focus (first | (simp; done) | (simp; omega)))))) hFI).mono ?_; rintro e wp ⟨PA, pc, rfl, hP, hbp⟩; have hBP := below_step (w := wr) hbp (by repeat (first | (with_reducible assumption) | (with_reducible exact Below.refl _ _) | (with_reducible refine Below.drew ?_) | (with_reducible refine below_drewN' ?_ _) | (with_reducible refine below_al ?_) | ((with_reducible refine below_set ?_ ?_); rotate_left; focus (first | (simp; done) | (simp; omega))))); have hPI := hP.to (Nat.le_refl _); clear hbp hP) | (go_at_call 73; refine (bcmp_c PA T pc tc (m * mid) nr _ l2 (Lib.hid rfl) HL2 (by omega) (by omega) _ hPI (HTv.out.below (by repeat (first | (with_reducible assumption) | (with_reducible exact Below.refl _ _) | (with_reducible refine Below.drew ?_) | (with_reducible refine below_drewN' ?_ _) | (with_reducible refine below_al ?_) | ((with_reducible refine below_set ?_ ?_); rotate_left; focus (first | (simp; done) | (simp; omega))))))).mono ?_; rintro e wz ⟨rfl, hbz⟩; rw [HCV.out]; have hBz := below_step (w := wr) hbz (by repeat (first | (with_reducible assumption) | (with_reducible exact Below.refl _ _) | (with_reducible refine Below.drew ?_) | (with_reducible refine below_drewN' ?_ _) | (with_reducible refine below_al ?_) | ((with_reducible refine below_set ?_ ?_); rotate_left; focus (first | (simp; done) | (simp; omega))))); clear hbz))
            have nB := Lib.hid (hBv.out.trans (hBz.mono hBv.out.size))
            clear HS hBz hRf gb gt hBF hBP hFI hPI
            by_cases hle : m * mid ≤ nr
            · have nD : Hid (m * mid ≤ nr ∧ nr < m * hi) := Lib.hid ⟨hle, hBD.out.2⟩
              have hc3 : cv = -1 ∨ cv = 0 := by rw [← HCV.out]; unfold cmpI; split; exact Or.inl rfl; rw [if_neg (by omega)]; exact Or.inr rfl
              clear HCV
              rcases hc3 with rfl | rfl
              all_goals (go_wp2_with fail; go_roundw; (case rel => exact ⟨mid, hi, rfl, rfl, by omega, hhi, nD, nB⟩); (case measure => simp [intOf]; omega))
            · have nD : Hid (m * lo ≤ nr ∧ nr < m * mid) := Lib.hid ⟨hBD.out.1, by omega⟩
              have hc3 : cv = 1 := by rw [← HCV.out]; exact cmpI_gt (by omega)
              clear HCV
              subst hc3
              go_wp2_with fail
              go_roundw
              case rel => exact ⟨lo, mid, rfl, rfl, by omega, by omega, nD, nB⟩
              case measure => simp [intOf]; omega
          · have d1 : decide ((1 : Int) < (hi : Int) - (lo : Int)) = false := decide_eq_false (by omega)
            obtain rfl : hi = lo + 1 := by omega
            have hlo : lo = nextR n k r / m := by (rw [HNR.out]; exact (Nat.div_eq_of_lt_le (by rw [Nat.mul_comm]; exact hBD.out.1) (by rw [Nat.mul_comm]; exact hBD.out.2)).symm)
            have nQ := Lib.hid (hQ.out.step hm (by omega) hlo (by omega))
            have hlb9 := hBD.out.1
            have hub9 : nr < m * lo + m := by (have := hBD.out.2; rw [Nat.mul_succ] at this; exact this)
            have NQ : Hid (QI n m k la (L.set k (lo : Int)) (nr - m * lo)) := Lib.hid (by have h := nQ.out; rw [HNR.out] at h; exact h)
            clear nQ hlo
            have hG3 := blk_st hBv.out HG2.out
            have gk := ints_cell hG3 k (by rw [hQ.out.len]; omega)
            have gkf : wr.frozen? ⟨w0.heap.size, k, none⟩ = false := blk_free hG3
            go_upto_region 15 with fail
            generalize hW5 : (wr.setCell _ _) = w5
            have hG5 := Lib.hid (show w5.heap[w0.heap.size]? = some (.cells (ints (L.set k (lo : Int))).toArray 3 (0, 0)) by rw [← hW5, ← ints_set]; exact blk_set hG3)
            have hR5 := Lib.hid (show w5.heap[w0.heap.size + 1]? = some (.cells #[.slice T l2 tc] 102 (0, 0)) by rw [← hW5]; exact blk_off (by omega) (blk_st hBv.out HR2.out))
            have hT5 := Lib.hid (show DIn w5 T (dg nr) by rw [← hW5]; exact ((HD2.out.below hBv.out).set (Or.inl (by omega))).to (by have := hBv.out.size; simpa using this))
            have B5 := Lib.hid (show Below w0.heap.size w0 w5 by rw [← hW5]; exact below_set (HB2.out.trans (hBv.out.mono HB2.out.size)) (Nat.le_refl _))
            clear hW5 hG3 gk gkf gb gt
            have IB5 := Lib.hid (HB.out.below B5.out)
            have gb5 := below_some B5.out _ _ _ GB.out
            have gt5 := blk_cell hR5.out (show (#[.slice T l2 tc] : Array Value)[0]? = some _ from rfl)
            have gf5 : w5.frozen? ⟨w0.heap.size + 1, 0, none⟩ = false := blk_free hR5.out
            have lt5 : w0.heap.size + 1 < w5.heap.size := blk_lt hR5.out
            have ll := dg_mul_len (m := m) (k := lo) (by omega)
            rw [hlb.out] at ll
            have ml : (dg lo).length ≤ 2 := dg_le (by (have : (10000 : Nat) ^ 2 = 100000000 := rfl); omega)
            have HS : Hid (∀ W, Below w0.heap.size w0 W → (fun W' => Below w0.heap.size w0 W' ∧ W'.cell? ⟨w.heap.size + 1, 0, none⟩ = some (.slice B lb cb)) W) := Lib.hid (fun W h => ⟨h, below_some h _ _ _ GB.out⟩)
            have hR55 : Below w5.heap.size w5 w5 := Below.refl _ _
            refine wp_region_held_drew (S := (fun W' => Below w0.heap.size w0 W' ∧ W'.cell? ⟨w.heap.size + 1, 0, none⟩ = some (.slice B lb cb))) (by kernel_rfl) ?_ (fun hHeld => ?_)
            · exact HS.out _ B5.out.drew
            refine wpAnyH_take (i := 1) (oi := ?_) (v := ?_) ?_ (by kernel_rfl) (by kernel_rfl) (by kernel_rfl) ?_ (Or.inl ⟨?_, ?_⟩) (by assumption) ?_; rotate_left 2
            · ((try simp only [List.getElem?_toArray, List.getElem?_cons_succ, List.getElem?_cons_zero]); rfl)
            · exact (fun _ _ _ h => h)
            · rfl
            · (intro w hSw; (try dsimp only at hSw); go_simp; (try with_reducible rfl))
            (try simp only [Act.put, List.setIfInBounds_toArray, List.set_cons_zero, List.set_cons_succ])
            refine wpAnyH_take (i := 2) (oi := ?_) (v := ?_) ?_ (by kernel_rfl) (by kernel_rfl) (by kernel_rfl) ?_ (Or.inl ⟨?_, ?_⟩) (by assumption) ?_; rotate_left 2
            · ((try simp only [List.getElem?_toArray, List.getElem?_cons_succ, List.getElem?_cons_zero]); rfl)
            · exact (fun _ _ _ h => h)
            · rfl
            · (intro w hSw; (try dsimp only at hSw); go_simp; (try with_reducible rfl))
            (try simp only [Act.put, List.setIfInBounds_toArray, List.set_cons_zero, List.set_cons_succ])
            refine wpAnyH_ready (rs := [0, 3]) (by kernel_rfl) (by simp) ?_
            refine AllReadyH.cons (o := ?oa1) ?ha1 ?sa1 (AllReadyH.cons (o := ?ob1) ?hb1 ?sb1 AllReadyH.nil)
            case ha1 => ((try simp only [List.getElem?_toArray, List.getElem?_cons_succ, List.getElem?_cons_zero]); rfl)
            case hb1 => ((try simp only [List.getElem?_toArray, List.getElem?_cons_succ, List.getElem?_cons_zero]); rfl)
            case sa1 =>
              intro K hK
              go_simp
              refine hK.out _ _ ?_ (fun hNew => ?_)
              · (refine HS.out _ ?_; first | exact hS9 | exact hS9.drew | (have hW0 := B5.out; refine hW0.trans (Below.mono ?_ hW0.size); repeat (first | (with_reducible assumption) | (with_reducible exact Below.refl _ _) | (with_reducible refine Below.drew ?_) | (with_reducible refine below_drewN' ?_ _) | (with_reducible refine below_al ?_) | ((with_reducible refine below_set ?_ ?_); rotate_left; focus (first | (simp; done) | (simp; omega))))))
              clear hK K hHeld; have hHeld := hNew; clear hNew
              (try simp only [Act.put, List.setIfInBounds_toArray, List.set_cons_zero, List.set_cons_succ])
              refine wpAnyH_ready (rs := [3]) (by kernel_rfl) (by simp) ?_
              refine AllReadyH.cons (o := ?_) ?_ (fun K hK => ?_) AllReadyH.nil; rotate_left 1
              · ((try simp only [List.getElem?_toArray, List.getElem?_cons_succ, List.getElem?_cons_zero]); rfl)
              go_simp
              refine (from_c lo (by omega) _).mono ?_; rintro e wF ⟨FA, fc, rfl, hF, hbF⟩
              have hBF : Below w5.heap.size w5 wF := below_step (w := w5) hbF (by repeat (first | (with_reducible assumption) | (with_reducible exact Below.refl _ _) | (with_reducible refine Below.drew ?_) | (with_reducible refine below_drewN' ?_ _) | (with_reducible refine below_al ?_) | ((with_reducible refine below_set ?_ ?_); rotate_left; focus (first | (simp; done) | (simp; omega)))))
              have hFI := hF.to (Nat.le_refl _)
              have gtF := below_some hBF _ _ _ gt5
              (try go_wp2_with fail)
              refine hK.out _ _ ?_ (fun hNew => ?_)
              · (refine HS.out _ ?_; first | exact hS9 | exact hS9.drew | (have hW0 := B5.out; refine hW0.trans (Below.mono ?_ hW0.size); repeat (first | (with_reducible assumption) | (with_reducible exact Below.refl _ _) | (with_reducible refine Below.drew ?_) | (with_reducible refine below_drewN' ?_ _) | (with_reducible refine below_al ?_) | ((with_reducible refine below_set ?_ ?_); rotate_left; focus (first | (simp; done) | (simp; omega))))))
              clear hK K hHeld; have hHeld := hNew; clear hNew
              (try simp only [Act.put, List.setIfInBounds_toArray, List.set_cons_zero, List.set_cons_succ])
              refine wpAnyH_ready (rs := [4]) (by kernel_rfl) (by simp) ?_
              refine AllReadyH.cons (o := ?_) ?_ (fun K hK => ?_) AllReadyH.nil; rotate_left 1
              · ((try simp only [List.getElem?_toArray, List.getElem?_cons_succ, List.getElem?_cons_zero]); rfl)
              go_simp
              refine (bprod_c B FA cb fc m lo lb _ hlb (Lib.hid rfl) (by omega) (by omega) _ (IB5.out.below (by repeat (first | (with_reducible assumption) | (with_reducible exact Below.refl _ _) | (with_reducible refine Below.drew ?_) | (with_reducible refine below_drewN' ?_ _) | (with_reducible refine below_al ?_) | ((with_reducible refine below_set ?_ ?_); rotate_left; focus (first | (simp; done) | (simp; omega)))))) (hFI.below (by have := Below.refl wF.heap.size wF; repeat (first | (with_reducible assumption) | (with_reducible exact Below.refl _ _) | (with_reducible refine Below.drew ?_) | (with_reducible refine below_drewN' ?_ _) | (with_reducible refine below_al ?_) | ((with_reducible refine below_set ?_ ?_); rotate_left; focus (first | (simp; done) | (simp; omega))))))).mono ?_; rintro e wP ⟨PA, pc, rfl, hP, hbP⟩
              have hBP : Below w5.heap.size w5 wP := below_step (w := w5) hbP (by repeat (first | (with_reducible assumption) | (with_reducible exact Below.refl _ _) | (with_reducible refine Below.drew ?_) | (with_reducible refine below_drewN' ?_ _) | (with_reducible refine below_al ?_) | ((with_reducible refine below_set ?_ ?_); rotate_left; focus (first | (simp; done) | (simp; omega)))))
              have hPI := hP.to (Nat.le_refl _)
              have gtP := below_some hBP _ _ _ gt5
              (try go_wp2_with fail)
              refine hK.out _ _ ?_ (fun hNew => ?_)
              · (refine HS.out _ ?_; first | exact hS9 | exact hS9.drew | (have hW0 := B5.out; refine hW0.trans (Below.mono ?_ hW0.size); repeat (first | (with_reducible assumption) | (with_reducible exact Below.refl _ _) | (with_reducible refine Below.drew ?_) | (with_reducible refine below_drewN' ?_ _) | (with_reducible refine below_al ?_) | ((with_reducible refine below_set ?_ ?_); rotate_left; focus (first | (simp; done) | (simp; omega))))))
              clear hK K hHeld; have hHeld := hNew; clear hNew
              (try simp only [Act.put, List.setIfInBounds_toArray, List.set_cons_zero, List.set_cons_succ])
              refine wpAnyH_ready (rs := [5]) (by kernel_rfl) (by simp) ?_
              refine AllReadyH.cons (o := ?_) ?_ (fun K hK => ?_) AllReadyH.nil; rotate_left 1
              · ((try simp only [List.getElem?_toArray, List.getElem?_cons_succ, List.getElem?_cons_zero]); rfl)
              go_simp
              refine (bless_c T PA tc pc nr (m * lo) l2 _ HL2 (Lib.hid rfl) (by omega) (by omega) hlb9 _ (hT5.out.below (by repeat (first | (with_reducible assumption) | (with_reducible exact Below.refl _ _) | (with_reducible refine Below.drew ?_) | (with_reducible refine below_drewN' ?_ _) | (with_reducible refine below_al ?_) | ((with_reducible refine below_set ?_ ?_); rotate_left; focus (first | (simp; done) | (simp; omega)))))) (hPI.below (by have := Below.refl wP.heap.size wP; repeat (first | (with_reducible assumption) | (with_reducible exact Below.refl _ _) | (with_reducible refine Below.drew ?_) | (with_reducible refine below_drewN' ?_ _) | (with_reducible refine below_al ?_) | ((with_reducible refine below_set ?_ ?_); rotate_left; focus (first | (simp; done) | (simp; omega))))))).mono ?_; rintro e wR ⟨RA, rc, rfl, hRr, hbR⟩
              have hBR : Below w5.heap.size w5 wR := below_step (w := w5) hbR (by repeat (first | (with_reducible assumption) | (with_reducible exact Below.refl _ _) | (with_reducible refine Below.drew ?_) | (with_reducible refine below_drewN' ?_ _) | (with_reducible refine below_al ?_) | ((with_reducible refine below_set ?_ ?_); rotate_left; focus (first | (simp; done) | (simp; omega)))))
              have zP := hBP.size
              have gtR := below_some hBR _ _ _ gt5
              have gfR := (hBR.frozen (p := ⟨w0.heap.size + 1, 0, none⟩) lt5).trans gf5
              (try go_wp2_with fail)
              refine hK.out _ _ ?_ (fun hNew => ?_)
              · (refine HS.out _ ?_; first | exact hS9 | exact hS9.drew | (have hW0 := B5.out; refine hW0.trans (Below.mono ?_ hW0.size); repeat (first | (with_reducible assumption) | (with_reducible exact Below.refl _ _) | (with_reducible refine Below.drew ?_) | (with_reducible refine below_drewN' ?_ _) | (with_reducible refine below_al ?_) | ((with_reducible refine below_set ?_ ?_); rotate_left; focus (first | (simp; done) | (simp; omega))))))
              clear hK K hHeld; have hHeld := hNew; clear hNew
              (try simp only [Act.put, List.setIfInBounds_toArray, List.set_cons_zero, List.set_cons_succ])
              refine wpAnyH_ready (rs := [6]) (by kernel_rfl) (by simp) ?_
              refine AllReadyH.cons (o := ?_) ?_ (fun K hK => ?_) AllReadyH.nil; rotate_left 1
              · ((try simp only [List.getElem?_toArray, List.getElem?_cons_succ, List.getElem?_cons_zero]); rfl)
              have hS9 : Below w0.heap.size w0 (wR.setCell ⟨w0.heap.size + 1, 0, none⟩ (.slice RA (dg (nr - m * lo)).length rc)) := below_set (B5.out.trans (hBR.mono B5.out.size)) (by simp)
              go_simp
              refine hK.out _ _ ?_ (fun hNew => ?_)
              · (refine HS.out _ ?_; first | exact hS9 | exact hS9.drew | (have hW0 := B5.out; refine hW0.trans (Below.mono ?_ hW0.size); repeat (first | (with_reducible assumption) | (with_reducible exact Below.refl _ _) | (with_reducible refine Below.drew ?_) | (with_reducible refine below_drewN' ?_ _) | (with_reducible refine below_al ?_) | ((with_reducible refine below_set ?_ ?_); rotate_left; focus (first | (simp; done) | (simp; omega))))))
              clear hK K hHeld; have hHeld := hNew; clear hNew
              (try simp only [Act.put, List.setIfInBounds_toArray, List.set_cons_zero, List.set_cons_succ])
              refine wpAnyH_done (by kernel_rfl) ?_ _
              have nG := Lib.hid (show (wR.setCell ⟨w0.heap.size + 1, 0, none⟩ (.slice RA (dg (nr - m * lo)).length rc)).heap[w0.heap.size]? = some (.cells (ints (L.set k (lo : Int))).toArray 3 (0, 0)) from blk_off (by omega) (blk_st hBR hG5.out))
              have nR := Lib.hid (show (wR.setCell ⟨w0.heap.size + 1, 0, none⟩ (.slice RA (dg (nr - m * lo)).length rc)).heap[w0.heap.size + 1]? = some (.cells #[.slice RA (dg (nr - m * lo)).length rc] 102 (0, 0)) by have h := blk_set (i := 0) (u := .slice RA (dg (nr - m * lo)).length rc) (blk_st hBR hR5.out); simpa using h)
              have nD := Lib.hid (show DBt (wR.setCell ⟨w0.heap.size + 1, 0, none⟩ (.slice RA (dg (nr - m * lo)).length rc)) (w0.heap.size + 2) (wR.setCell ⟨w0.heap.size + 1, 0, none⟩ (.slice RA (dg (nr - m * lo)).length rc)).heap.size RA (dg (nr - m * lo)) from (hRr.set (Or.inl (by omega))).wide (by omega) (by simp))
              have nB := Lib.hid hS9
              clear HS hS9 hHeld
              go_wp2_with fail
              go_roundw
              case rel => exact ⟨k, nr - m * lo, _, L.set k (lo : Int), RA, rc, by omega, rfl, NQ, Lib.hid (by omega), Lib.hid rfl, nG, nR, nD, nB⟩
              case measure => simp [intOf] <;> omega
            case sb1 =>
              intro K hK
              go_simp
              refine (from_c lo (by omega) _).mono ?_; rintro e wF ⟨FA, fc, rfl, hF, hbF⟩
              have hBF : Below w5.heap.size w5 wF := below_step (w := w5) hbF (by repeat (first | (with_reducible assumption) | (with_reducible exact Below.refl _ _) | (with_reducible refine Below.drew ?_) | (with_reducible refine below_drewN' ?_ _) | (with_reducible refine below_al ?_) | ((with_reducible refine below_set ?_ ?_); rotate_left; focus (first | (simp; done) | (simp; omega)))))
              have hFI := hF.to (Nat.le_refl _)
              have gtF := below_some hBF _ _ _ gt5
              (try go_wp2_with fail)
              refine hK.out _ _ ?_ (fun hNew => ?_)
              · (refine HS.out _ ?_; first | exact hS9 | exact hS9.drew | (have hW0 := B5.out; refine hW0.trans (Below.mono ?_ hW0.size); repeat (first | (with_reducible assumption) | (with_reducible exact Below.refl _ _) | (with_reducible refine Below.drew ?_) | (with_reducible refine below_drewN' ?_ _) | (with_reducible refine below_al ?_) | ((with_reducible refine below_set ?_ ?_); rotate_left; focus (first | (simp; done) | (simp; omega))))))
              clear hK K hHeld; have hHeld := hNew; clear hNew
              (try simp only [Act.put, List.setIfInBounds_toArray, List.set_cons_zero, List.set_cons_succ])
              refine wpAnyH_ready (rs := [0, 4]) (by kernel_rfl) (by simp) ?_
              refine AllReadyH.cons (o := ?oa2) ?ha2 ?sa2 (AllReadyH.cons (o := ?ob2) ?hb2 ?sb2 AllReadyH.nil)
              case ha2 => ((try simp only [List.getElem?_toArray, List.getElem?_cons_succ, List.getElem?_cons_zero]); rfl)
              case hb2 => ((try simp only [List.getElem?_toArray, List.getElem?_cons_succ, List.getElem?_cons_zero]); rfl)
              case sa2 =>
                intro K hK
                go_simp
                refine hK.out _ _ ?_ (fun hNew => ?_)
                · (refine HS.out _ ?_; first | exact hS9 | exact hS9.drew | (have hW0 := B5.out; refine hW0.trans (Below.mono ?_ hW0.size); repeat (first | (with_reducible assumption) | (with_reducible exact Below.refl _ _) | (with_reducible refine Below.drew ?_) | (with_reducible refine below_drewN' ?_ _) | (with_reducible refine below_al ?_) | ((with_reducible refine below_set ?_ ?_); rotate_left; focus (first | (simp; done) | (simp; omega))))))
                clear hK K hHeld; have hHeld := hNew; clear hNew
                (try simp only [Act.put, List.setIfInBounds_toArray, List.set_cons_zero, List.set_cons_succ])
                refine wpAnyH_ready (rs := [4]) (by kernel_rfl) (by simp) ?_
                refine AllReadyH.cons (o := ?_) ?_ (fun K hK => ?_) AllReadyH.nil; rotate_left 1
                · ((try simp only [List.getElem?_toArray, List.getElem?_cons_succ, List.getElem?_cons_zero]); rfl)
                go_simp
                refine (bprod_c B FA cb fc m lo lb _ hlb (Lib.hid rfl) (by omega) (by omega) _ (IB5.out.below (by repeat (first | (with_reducible assumption) | (with_reducible exact Below.refl _ _) | (with_reducible refine Below.drew ?_) | (with_reducible refine below_drewN' ?_ _) | (with_reducible refine below_al ?_) | ((with_reducible refine below_set ?_ ?_); rotate_left; focus (first | (simp; done) | (simp; omega)))))) (hFI.below (by have := Below.refl wF.heap.size wF; repeat (first | (with_reducible assumption) | (with_reducible exact Below.refl _ _) | (with_reducible refine Below.drew ?_) | (with_reducible refine below_drewN' ?_ _) | (with_reducible refine below_al ?_) | ((with_reducible refine below_set ?_ ?_); rotate_left; focus (first | (simp; done) | (simp; omega))))))).mono ?_; rintro e wP ⟨PA, pc, rfl, hP, hbP⟩
                have hBP : Below w5.heap.size w5 wP := below_step (w := w5) hbP (by repeat (first | (with_reducible assumption) | (with_reducible exact Below.refl _ _) | (with_reducible refine Below.drew ?_) | (with_reducible refine below_drewN' ?_ _) | (with_reducible refine below_al ?_) | ((with_reducible refine below_set ?_ ?_); rotate_left; focus (first | (simp; done) | (simp; omega)))))
                have hPI := hP.to (Nat.le_refl _)
                have gtP := below_some hBP _ _ _ gt5
                (try go_wp2_with fail)
                refine hK.out _ _ ?_ (fun hNew => ?_)
                · (refine HS.out _ ?_; first | exact hS9 | exact hS9.drew | (have hW0 := B5.out; refine hW0.trans (Below.mono ?_ hW0.size); repeat (first | (with_reducible assumption) | (with_reducible exact Below.refl _ _) | (with_reducible refine Below.drew ?_) | (with_reducible refine below_drewN' ?_ _) | (with_reducible refine below_al ?_) | ((with_reducible refine below_set ?_ ?_); rotate_left; focus (first | (simp; done) | (simp; omega))))))
                clear hK K hHeld; have hHeld := hNew; clear hNew
                (try simp only [Act.put, List.setIfInBounds_toArray, List.set_cons_zero, List.set_cons_succ])
                refine wpAnyH_ready (rs := [5]) (by kernel_rfl) (by simp) ?_
                refine AllReadyH.cons (o := ?_) ?_ (fun K hK => ?_) AllReadyH.nil; rotate_left 1
                · ((try simp only [List.getElem?_toArray, List.getElem?_cons_succ, List.getElem?_cons_zero]); rfl)
                go_simp
                refine (bless_c T PA tc pc nr (m * lo) l2 _ HL2 (Lib.hid rfl) (by omega) (by omega) hlb9 _ (hT5.out.below (by repeat (first | (with_reducible assumption) | (with_reducible exact Below.refl _ _) | (with_reducible refine Below.drew ?_) | (with_reducible refine below_drewN' ?_ _) | (with_reducible refine below_al ?_) | ((with_reducible refine below_set ?_ ?_); rotate_left; focus (first | (simp; done) | (simp; omega)))))) (hPI.below (by have := Below.refl wP.heap.size wP; repeat (first | (with_reducible assumption) | (with_reducible exact Below.refl _ _) | (with_reducible refine Below.drew ?_) | (with_reducible refine below_drewN' ?_ _) | (with_reducible refine below_al ?_) | ((with_reducible refine below_set ?_ ?_); rotate_left; focus (first | (simp; done) | (simp; omega))))))).mono ?_; rintro e wR ⟨RA, rc, rfl, hRr, hbR⟩
                have hBR : Below w5.heap.size w5 wR := below_step (w := w5) hbR (by repeat (first | (with_reducible assumption) | (with_reducible exact Below.refl _ _) | (with_reducible refine Below.drew ?_) | (with_reducible refine below_drewN' ?_ _) | (with_reducible refine below_al ?_) | ((with_reducible refine below_set ?_ ?_); rotate_left; focus (first | (simp; done) | (simp; omega)))))
                have zP := hBP.size
                have gtR := below_some hBR _ _ _ gt5
                have gfR := (hBR.frozen (p := ⟨w0.heap.size + 1, 0, none⟩) lt5).trans gf5
                (try go_wp2_with fail)
                refine hK.out _ _ ?_ (fun hNew => ?_)
                · (refine HS.out _ ?_; first | exact hS9 | exact hS9.drew | (have hW0 := B5.out; refine hW0.trans (Below.mono ?_ hW0.size); repeat (first | (with_reducible assumption) | (with_reducible exact Below.refl _ _) | (with_reducible refine Below.drew ?_) | (with_reducible refine below_drewN' ?_ _) | (with_reducible refine below_al ?_) | ((with_reducible refine below_set ?_ ?_); rotate_left; focus (first | (simp; done) | (simp; omega))))))
                clear hK K hHeld; have hHeld := hNew; clear hNew
                (try simp only [Act.put, List.setIfInBounds_toArray, List.set_cons_zero, List.set_cons_succ])
                refine wpAnyH_ready (rs := [6]) (by kernel_rfl) (by simp) ?_
                refine AllReadyH.cons (o := ?_) ?_ (fun K hK => ?_) AllReadyH.nil; rotate_left 1
                · ((try simp only [List.getElem?_toArray, List.getElem?_cons_succ, List.getElem?_cons_zero]); rfl)
                have hS9 : Below w0.heap.size w0 (wR.setCell ⟨w0.heap.size + 1, 0, none⟩ (.slice RA (dg (nr - m * lo)).length rc)) := below_set (B5.out.trans (hBR.mono B5.out.size)) (by simp)
                go_simp
                refine hK.out _ _ ?_ (fun hNew => ?_)
                · (refine HS.out _ ?_; first | exact hS9 | exact hS9.drew | (have hW0 := B5.out; refine hW0.trans (Below.mono ?_ hW0.size); repeat (first | (with_reducible assumption) | (with_reducible exact Below.refl _ _) | (with_reducible refine Below.drew ?_) | (with_reducible refine below_drewN' ?_ _) | (with_reducible refine below_al ?_) | ((with_reducible refine below_set ?_ ?_); rotate_left; focus (first | (simp; done) | (simp; omega))))))
                clear hK K hHeld; have hHeld := hNew; clear hNew
                (try simp only [Act.put, List.setIfInBounds_toArray, List.set_cons_zero, List.set_cons_succ])
                refine wpAnyH_done (by kernel_rfl) ?_ _
                have nG := Lib.hid (show (wR.setCell ⟨w0.heap.size + 1, 0, none⟩ (.slice RA (dg (nr - m * lo)).length rc)).heap[w0.heap.size]? = some (.cells (ints (L.set k (lo : Int))).toArray 3 (0, 0)) from blk_off (by omega) (blk_st hBR hG5.out))
                have nR := Lib.hid (show (wR.setCell ⟨w0.heap.size + 1, 0, none⟩ (.slice RA (dg (nr - m * lo)).length rc)).heap[w0.heap.size + 1]? = some (.cells #[.slice RA (dg (nr - m * lo)).length rc] 102 (0, 0)) by have h := blk_set (i := 0) (u := .slice RA (dg (nr - m * lo)).length rc) (blk_st hBR hR5.out); simpa using h)
                have nD := Lib.hid (show DBt (wR.setCell ⟨w0.heap.size + 1, 0, none⟩ (.slice RA (dg (nr - m * lo)).length rc)) (w0.heap.size + 2) (wR.setCell ⟨w0.heap.size + 1, 0, none⟩ (.slice RA (dg (nr - m * lo)).length rc)).heap.size RA (dg (nr - m * lo)) from (hRr.set (Or.inl (by omega))).wide (by omega) (by simp))
                have nB := Lib.hid hS9
                clear HS hS9 hHeld
                go_wp2_with fail
                go_roundw
                case rel => exact ⟨k, nr - m * lo, _, L.set k (lo : Int), RA, rc, by omega, rfl, NQ, Lib.hid (by omega), Lib.hid rfl, nG, nR, nD, nB⟩
                case measure => simp [intOf] <;> omega
              case sb2 =>
                intro K hK
                go_simp
                refine (bprod_c B FA cb fc m lo lb _ hlb (Lib.hid rfl) (by omega) (by omega) _ (IB5.out.below (by repeat (first | (with_reducible assumption) | (with_reducible exact Below.refl _ _) | (with_reducible refine Below.drew ?_) | (with_reducible refine below_drewN' ?_ _) | (with_reducible refine below_al ?_) | ((with_reducible refine below_set ?_ ?_); rotate_left; focus (first | (simp; done) | (simp; omega)))))) (hFI.below (by have := Below.refl wF.heap.size wF; repeat (first | (with_reducible assumption) | (with_reducible exact Below.refl _ _) | (with_reducible refine Below.drew ?_) | (with_reducible refine below_drewN' ?_ _) | (with_reducible refine below_al ?_) | ((with_reducible refine below_set ?_ ?_); rotate_left; focus (first | (simp; done) | (simp; omega))))))).mono ?_; rintro e wP ⟨PA, pc, rfl, hP, hbP⟩
                have hBP : Below w5.heap.size w5 wP := below_step (w := w5) hbP (by repeat (first | (with_reducible assumption) | (with_reducible exact Below.refl _ _) | (with_reducible refine Below.drew ?_) | (with_reducible refine below_drewN' ?_ _) | (with_reducible refine below_al ?_) | ((with_reducible refine below_set ?_ ?_); rotate_left; focus (first | (simp; done) | (simp; omega)))))
                have hPI := hP.to (Nat.le_refl _)
                have gtP := below_some hBP _ _ _ gt5
                (try go_wp2_with fail)
                refine hK.out _ _ ?_ (fun hNew => ?_)
                · (refine HS.out _ ?_; first | exact hS9 | exact hS9.drew | (have hW0 := B5.out; refine hW0.trans (Below.mono ?_ hW0.size); repeat (first | (with_reducible assumption) | (with_reducible exact Below.refl _ _) | (with_reducible refine Below.drew ?_) | (with_reducible refine below_drewN' ?_ _) | (with_reducible refine below_al ?_) | ((with_reducible refine below_set ?_ ?_); rotate_left; focus (first | (simp; done) | (simp; omega))))))
                clear hK K hHeld; have hHeld := hNew; clear hNew
                (try simp only [Act.put, List.setIfInBounds_toArray, List.set_cons_zero, List.set_cons_succ])
                refine wpAnyH_ready (rs := [0]) (by kernel_rfl) (by simp) ?_
                refine AllReadyH.cons (o := ?_) ?_ (fun K hK => ?_) AllReadyH.nil; rotate_left 1
                · ((try simp only [List.getElem?_toArray, List.getElem?_cons_succ, List.getElem?_cons_zero]); rfl)
                go_simp
                refine hK.out _ _ ?_ (fun hNew => ?_)
                · (refine HS.out _ ?_; first | exact hS9 | exact hS9.drew | (have hW0 := B5.out; refine hW0.trans (Below.mono ?_ hW0.size); repeat (first | (with_reducible assumption) | (with_reducible exact Below.refl _ _) | (with_reducible refine Below.drew ?_) | (with_reducible refine below_drewN' ?_ _) | (with_reducible refine below_al ?_) | ((with_reducible refine below_set ?_ ?_); rotate_left; focus (first | (simp; done) | (simp; omega))))))
                clear hK K hHeld; have hHeld := hNew; clear hNew
                (try simp only [Act.put, List.setIfInBounds_toArray, List.set_cons_zero, List.set_cons_succ])
                refine wpAnyH_ready (rs := [5]) (by kernel_rfl) (by simp) ?_
                refine AllReadyH.cons (o := ?_) ?_ (fun K hK => ?_) AllReadyH.nil; rotate_left 1
                · ((try simp only [List.getElem?_toArray, List.getElem?_cons_succ, List.getElem?_cons_zero]); rfl)
                go_simp
                refine (bless_c T PA tc pc nr (m * lo) l2 _ HL2 (Lib.hid rfl) (by omega) (by omega) hlb9 _ (hT5.out.below (by repeat (first | (with_reducible assumption) | (with_reducible exact Below.refl _ _) | (with_reducible refine Below.drew ?_) | (with_reducible refine below_drewN' ?_ _) | (with_reducible refine below_al ?_) | ((with_reducible refine below_set ?_ ?_); rotate_left; focus (first | (simp; done) | (simp; omega)))))) (hPI.below (by have := Below.refl wP.heap.size wP; repeat (first | (with_reducible assumption) | (with_reducible exact Below.refl _ _) | (with_reducible refine Below.drew ?_) | (with_reducible refine below_drewN' ?_ _) | (with_reducible refine below_al ?_) | ((with_reducible refine below_set ?_ ?_); rotate_left; focus (first | (simp; done) | (simp; omega))))))).mono ?_; rintro e wR ⟨RA, rc, rfl, hRr, hbR⟩
                have hBR : Below w5.heap.size w5 wR := below_step (w := w5) hbR (by repeat (first | (with_reducible assumption) | (with_reducible exact Below.refl _ _) | (with_reducible refine Below.drew ?_) | (with_reducible refine below_drewN' ?_ _) | (with_reducible refine below_al ?_) | ((with_reducible refine below_set ?_ ?_); rotate_left; focus (first | (simp; done) | (simp; omega)))))
                have zP := hBP.size
                have gtR := below_some hBR _ _ _ gt5
                have gfR := (hBR.frozen (p := ⟨w0.heap.size + 1, 0, none⟩) lt5).trans gf5
                (try go_wp2_with fail)
                refine hK.out _ _ ?_ (fun hNew => ?_)
                · (refine HS.out _ ?_; first | exact hS9 | exact hS9.drew | (have hW0 := B5.out; refine hW0.trans (Below.mono ?_ hW0.size); repeat (first | (with_reducible assumption) | (with_reducible exact Below.refl _ _) | (with_reducible refine Below.drew ?_) | (with_reducible refine below_drewN' ?_ _) | (with_reducible refine below_al ?_) | ((with_reducible refine below_set ?_ ?_); rotate_left; focus (first | (simp; done) | (simp; omega))))))
                clear hK K hHeld; have hHeld := hNew; clear hNew
                (try simp only [Act.put, List.setIfInBounds_toArray, List.set_cons_zero, List.set_cons_succ])
                refine wpAnyH_ready (rs := [6]) (by kernel_rfl) (by simp) ?_
                refine AllReadyH.cons (o := ?_) ?_ (fun K hK => ?_) AllReadyH.nil; rotate_left 1
                · ((try simp only [List.getElem?_toArray, List.getElem?_cons_succ, List.getElem?_cons_zero]); rfl)
                have hS9 : Below w0.heap.size w0 (wR.setCell ⟨w0.heap.size + 1, 0, none⟩ (.slice RA (dg (nr - m * lo)).length rc)) := below_set (B5.out.trans (hBR.mono B5.out.size)) (by simp)
                go_simp
                refine hK.out _ _ ?_ (fun hNew => ?_)
                · (refine HS.out _ ?_; first | exact hS9 | exact hS9.drew | (have hW0 := B5.out; refine hW0.trans (Below.mono ?_ hW0.size); repeat (first | (with_reducible assumption) | (with_reducible exact Below.refl _ _) | (with_reducible refine Below.drew ?_) | (with_reducible refine below_drewN' ?_ _) | (with_reducible refine below_al ?_) | ((with_reducible refine below_set ?_ ?_); rotate_left; focus (first | (simp; done) | (simp; omega))))))
                clear hK K hHeld; have hHeld := hNew; clear hNew
                (try simp only [Act.put, List.setIfInBounds_toArray, List.set_cons_zero, List.set_cons_succ])
                refine wpAnyH_done (by kernel_rfl) ?_ _
                have nG := Lib.hid (show (wR.setCell ⟨w0.heap.size + 1, 0, none⟩ (.slice RA (dg (nr - m * lo)).length rc)).heap[w0.heap.size]? = some (.cells (ints (L.set k (lo : Int))).toArray 3 (0, 0)) from blk_off (by omega) (blk_st hBR hG5.out))
                have nR := Lib.hid (show (wR.setCell ⟨w0.heap.size + 1, 0, none⟩ (.slice RA (dg (nr - m * lo)).length rc)).heap[w0.heap.size + 1]? = some (.cells #[.slice RA (dg (nr - m * lo)).length rc] 102 (0, 0)) by have h := blk_set (i := 0) (u := .slice RA (dg (nr - m * lo)).length rc) (blk_st hBR hR5.out); simpa using h)
                have nD := Lib.hid (show DBt (wR.setCell ⟨w0.heap.size + 1, 0, none⟩ (.slice RA (dg (nr - m * lo)).length rc)) (w0.heap.size + 2) (wR.setCell ⟨w0.heap.size + 1, 0, none⟩ (.slice RA (dg (nr - m * lo)).length rc)).heap.size RA (dg (nr - m * lo)) from (hRr.set (Or.inl (by omega))).wide (by omega) (by simp))
                have nB := Lib.hid hS9
                clear HS hS9 hHeld
                go_wp2_with fail
                go_roundw
                case rel => exact ⟨k, nr - m * lo, _, L.set k (lo : Int), RA, rc, by omega, rfl, NQ, Lib.hid (by omega), Lib.hid rfl, nG, nR, nD, nB⟩
                case measure => simp [intOf] <;> omega
set_option maxRecDepth 100000 in
set_option maxHeartbeats 8000000 in
theorem bquot_nil (A0 B : Option Addr) (ca cb n m la lb : Nat) (hm : 0 < m) (hla : Hid ((dg n).length = la)) (hz : Hid (la = 0)) (hlb : Hid ((dg m).length = lb)) (bla : la ≤ 1000) (blb : lb ≤ 1000) (w : World) (hb : DIn w B (dg m)) : Calls Tryd.prog 84 #[.agg #[.slice A0 la ca], .agg #[.slice B lb cb]] w (QuotRet (n / m) (n % m) w) := by
  obtain ⟨i0, hi0, hz0, hs0, hb0⟩ := info_parts infoD
  have hmk := mk_c la (by omega)
  have s0 : IntKind.i64.wrap ((la : Int) - 1) = (la : Int) - 1 := IntWalk.i64_in _ (by omega)
  go_enter Tryd.func84, Tryd.ntmps84
  go_upto_region 1 with fail
  generalize hW : ((((w.alloc _).alloc _).alloc _).alloc _) = w0
  have hB0 : Below w.heap.size w w0 := by rw [← hW]; exact below_al (below_al (below_al (below_al (Below.refl _ _))))
  have hz0w : w0.heap.size = w.heap.size + 4 := by rw [← hW]; simp
  have ga : w0.cell? ⟨w.heap.size, 0, none⟩ = some (.slice A0 la ca) := by rw [← hW]; exact cell_al (cell_al (cell_al (cell_nu rfl rfl)))
  have gb : w0.cell? ⟨w.heap.size + 1, 0, none⟩ = some (.slice B lb cb) := by rw [← hW]; exact cell_al (cell_al (cell_nu (by simp) rfl))
  have gr : w0.cell? ⟨w.heap.size + 1 + 1, 0, none⟩ = some (.slice none 0 0) := by rw [← hW]; exact cell_al (cell_nu (by simp) rfl)
  have gf : w0.frozen? ⟨w.heap.size + 1 + 1, 0, none⟩ = false := by rw [← hW]; exact blk_free (blk_al (blk_nu (by simp)))
  have gs : w0.cell? ⟨w.heap.size + 1 + 1 + 1, 0, none⟩ = some (.slice none 0 0) := by rw [← hW]; exact cell_nu (by simp) rfl
  have ge : w0.frozen? ⟨w.heap.size + 1 + 1 + 1, 0, none⟩ = false := by rw [← hW]; exact blk_free (blk_nu (by simp))
  skip
  have HB := Lib.hid (hb.below hB0); have GA := Lib.hid ga; have GB := Lib.hid gb; have GR := Lib.hid gr; have GF := Lib.hid gf; have GS := Lib.hid gs; have GE := Lib.hid ge; have HZ0 := Lib.hid hz0w
  have lt0 : w.heap.size < w0.heap.size := by omega
  clear hW hb gr gf gs ge hz0w
  go_wp2_with fail
  go_loopw [8] (fun p wr => ∃ (k r l : Nat) (L : List Int) (A : Option Addr) (c : Nat), k ≤ la ∧ p = .int .i64 ((k : Int) - 1) ∧ Hid (QI n m k la L r) ∧ Hid (r < m) ∧ Hid ((dg r).length = l) ∧ Hid (wr.heap[w0.heap.size]? = some (.cells (ints L).toArray 3 (0, 0))) ∧ Hid (wr.heap[w0.heap.size + 1]? = some (.cells #[.slice A l c] 102 (0, 0))) ∧ Hid (DBt wr (w0.heap.size + 2) wr.heap.size A (dg r)) ∧ Hid (Below w0.heap.size w0 wr)) (fun p _ => (intOf p + 1).toNat)
  case atStart => exact ⟨la, 0, 0, _, none, 0, Nat.le_refl _, rfl, Lib.hid (QI.start hla.out), Lib.hid hm, Lib.hid (by rw [dg_zero]; rfl), Lib.hid (blk_al (blk_nu rfl)), Lib.hid (blk_nu (by simp)), Lib.hid (Or.inl dg_zero), Lib.hid (below_al (below_al (Below.refl _ _)))⟩
  case round =>
    obtain ⟨k, r, l, L, A, c, hk, rfl, hQ, hrm, hl, hG, hR, hD, hBr⟩ := hrel
    clear ga gb
    have g1 := below_some hBr.out _ _ _ GA.out
    have g2 := below_some hBr.out _ _ _ GB.out
    have hzr := hBr.out.size
    have g3 := blk_cell hR.out (show (#[.slice A l c] : Array Value)[0]? = some _ from rfl)
    have g3f : wr.frozen? ⟨w0.heap.size + 1, 0, none⟩ = false := blk_free hR.out
    have hzr2 : w0.heap.size + 1 < wr.heap.size := blk_lt hR.out
    cases k with
    | zero =>
      have hdn := hQ.out.done
      have HQD := Lib.hid hdn; clear hdn
      have hDI : DIn wr (some ⟨w0.heap.size, 0, none⟩) L := Or.inr ⟨w0.heap.size, 0, rfl, blk_lt hG.out, fun q hq => by rw [Nat.zero_add]; exact ints_cell hG.out q hq⟩
      have HDI := Lib.hid hDI; clear hDI
      have zw := HZ0.out
      have gr4 := below_some hBr.out _ _ _ GR.out
      have gr5 := below_some hBr.out _ _ _ GS.out
      have gf4 := (hBr.out.frozen (p := ⟨w.heap.size + 1 + 1, 0, none⟩) (by simp; omega)).trans GF.out
      have gf5 := (hBr.out.frozen (p := ⟨w.heap.size + 1 + 1 + 1, 0, none⟩) (by simp; omega)).trans GE.out
      have hBw : Below w.heap.size w wr := hB0.trans (hBr.out.mono hB0.size)
      have lr4 : w.heap.size + 1 + 1 < wr.heap.size := by omega
      have lr5 : w.heap.size + 1 + 1 + 1 < wr.heap.size := by omega
      have hrr : Below wr.heap.size wr wr := Below.refl _ _
      clear zw
      have HLA : Hid (L.length = la) := Lib.hid hQ.out.len; have HPL : Hid (PartL L) := Lib.hid hQ.out.prt
      go_upto_region 16 with fail
      have HS : Hid (∀ W, Below w.heap.size w W → (fun W' => Below w.heap.size w W') W) := Lib.hid (fun W h => h)
      refine wp_region_held_drew (S := (fun W' => Below w.heap.size w W')) (by kernel_rfl) ?_ (fun hHeld => ?_)
      · exact HS.out _ hBw.drew
      refine wpAnyH_take (i := 0) (oi := ?_) (v := ?_) ?_ (by kernel_rfl) (by kernel_rfl) (by kernel_rfl) ?_ (Or.inl ⟨?_, ?_⟩) (by assumption) ?_; rotate_left 2
      · ((try simp only [List.getElem?_toArray, List.getElem?_cons_succ, List.getElem?_cons_zero]); rfl)
      · exact (fun _ _ _ h => h)
      · rfl
      · (intro w hSw; (try dsimp only at hSw); go_simp; (try with_reducible rfl))
      (try simp only [Act.put, List.setIfInBounds_toArray, List.set_cons_zero, List.set_cons_succ])
      refine wpAnyH_ready (rs := [1, 2]) (by kernel_rfl) (by simp) ?_
      refine AllReadyH.cons (o := ?oz1) ?hz1 ?sz1 (AllReadyH.cons (o := ?oz2) ?hz2 ?sz2 AllReadyH.nil)
      case hz1 => ((try simp only [List.getElem?_toArray, List.getElem?_cons_succ, List.getElem?_cons_zero]); rfl)
      case hz2 => ((try simp only [List.getElem?_toArray, List.getElem?_cons_succ, List.getElem?_cons_zero]); rfl)
      case sz1 =>
        intro K hK
        go_simp
        refine (trim_c (some ⟨w0.heap.size, 0, none⟩) la la L HLA.out.symm HPL.out (by rw [HLA.out]; omega) (by rw [HLA.out]; omega) _ (HDI.out.below (by repeat (first | (with_reducible assumption) | (with_reducible exact Below.refl _ _) | (with_reducible refine Below.drew ?_) | (with_reducible refine below_drewN' ?_ _) | (with_reducible refine below_al ?_) | ((with_reducible refine below_set ?_ ?_); rotate_left; focus (first | (simp; done) | (simp; omega))))))).mono ?_; intro e wT hbr; rw [HQD.out.1] at hbr; obtain ⟨TA, tc, rfl, hT, hbT⟩ := hbr
        have hBT : Below wr.heap.size wr wT := below_step (w := wr) hbT (by repeat (first | (with_reducible assumption) | (with_reducible exact Below.refl _ _) | (with_reducible refine Below.drew ?_) | (with_reducible refine below_drewN' ?_ _) | (with_reducible refine below_al ?_) | ((with_reducible refine below_set ?_ ?_); rotate_left; focus (first | (simp; done) | (simp; omega)))))
        have k3 := below_some hBT _ _ _ g3
        have k4 := below_some hBT _ _ _ gr4; have k5 := below_some hBT _ _ _ gr5
        have m4 := (hBT.frozen (p := ⟨w.heap.size + 1 + 1, 0, none⟩) lr4).trans gf4; have m5 := (hBT.frozen (p := ⟨w.heap.size + 1 + 1 + 1, 0, none⟩) lr5).trans gf5
        have zT := hBT.size
        (try go_wp2_with fail)
        refine hK.out _ _ ?_ (fun hNew => ?_)
        · (refine HS.out _ ?_; first | (with_reducible exact hS9) | (with_reducible exact hS9.drew) | (with_reducible exact hS8) | (with_reducible exact hS8.drew) | (refine hBw.trans (Below.mono ?_ hBw.size); repeat (first | (with_reducible assumption) | (with_reducible exact Below.refl _ _) | (with_reducible refine Below.drew ?_) | (with_reducible refine below_drewN' ?_ _) | (with_reducible refine below_al ?_) | ((with_reducible refine below_set ?_ ?_); rotate_left; focus (first | (simp; done) | (simp; omega))))))
        clear hK K hHeld; have hHeld := hNew; clear hNew
        (try simp only [Act.put, List.setIfInBounds_toArray, List.set_cons_zero, List.set_cons_succ])
        refine wpAnyH_ready (rs := [2, 3]) (by kernel_rfl) (by simp) ?_
        refine AllReadyH.cons (o := ?oy1) ?hy1 ?sy1 (AllReadyH.cons (o := ?oy2) ?hy2 ?sy2 AllReadyH.nil)
        case hy1 => ((try simp only [List.getElem?_toArray, List.getElem?_cons_succ, List.getElem?_cons_zero]); rfl)
        case hy2 => ((try simp only [List.getElem?_toArray, List.getElem?_cons_succ, List.getElem?_cons_zero]); rfl)
        case sy1 =>
          intro K hK
          go_simp
          refine hK.out _ _ ?_ (fun hNew => ?_)
          · (refine HS.out _ ?_; first | (with_reducible exact hS9) | (with_reducible exact hS9.drew) | (with_reducible exact hS8) | (with_reducible exact hS8.drew) | (refine hBw.trans (Below.mono ?_ hBw.size); repeat (first | (with_reducible assumption) | (with_reducible exact Below.refl _ _) | (with_reducible refine Below.drew ?_) | (with_reducible refine below_drewN' ?_ _) | (with_reducible refine below_al ?_) | ((with_reducible refine below_set ?_ ?_); rotate_left; focus (first | (simp; done) | (simp; omega))))))
          clear hK K hHeld; have hHeld := hNew; clear hNew
          (try simp only [Act.put, List.setIfInBounds_toArray, List.set_cons_zero, List.set_cons_succ])
          refine wpAnyH_ready (rs := [3]) (by kernel_rfl) (by simp) ?_
          refine AllReadyH.cons (o := ?_) ?_ (fun K hK => ?_) AllReadyH.nil; rotate_left 1
          · ((try simp only [List.getElem?_toArray, List.getElem?_cons_succ, List.getElem?_cons_zero]); rfl)
          have hS8 : Below w.heap.size w (wT.setCell ⟨w.heap.size + 1 + 1, 0, none⟩ (.slice TA (dg (n / m)).length tc)) := below_set (hBw.trans (hBT.mono hBw.size)) (by simp; omega)
          go_simp
          refine hK.out _ _ ?_ (fun hNew => ?_)
          · (refine HS.out _ ?_; first | (with_reducible exact hS9) | (with_reducible exact hS9.drew) | (with_reducible exact hS8) | (with_reducible exact hS8.drew) | (refine hBw.trans (Below.mono ?_ hBw.size); repeat (first | (with_reducible assumption) | (with_reducible exact Below.refl _ _) | (with_reducible refine Below.drew ?_) | (with_reducible refine below_drewN' ?_ _) | (with_reducible refine below_al ?_) | ((with_reducible refine below_set ?_ ?_); rotate_left; focus (first | (simp; done) | (simp; omega))))))
          clear hK K hHeld; have hHeld := hNew; clear hNew
          (try simp only [Act.put, List.setIfInBounds_toArray, List.set_cons_zero, List.set_cons_succ])
          refine wpAnyH_ready (rs := [4]) (by kernel_rfl) (by simp) ?_
          refine AllReadyH.cons (o := ?_) ?_ (fun K hK => ?_) AllReadyH.nil; rotate_left 1
          · ((try simp only [List.getElem?_toArray, List.getElem?_cons_succ, List.getElem?_cons_zero]); rfl)
          have hS9 : Below w.heap.size w ((wT.setCell ⟨w.heap.size + 1 + 1, 0, none⟩ (.slice TA (dg (n / m)).length tc)).setCell ⟨w.heap.size + 1 + 1 + 1, 0, none⟩ (.slice A l c)) := below_set hS8 (by simp; omega)
          go_simp
          refine hK.out _ _ ?_ (fun hNew => ?_)
          · (refine HS.out _ ?_; first | (with_reducible exact hS9) | (with_reducible exact hS9.drew) | (with_reducible exact hS8) | (with_reducible exact hS8.drew) | (refine hBw.trans (Below.mono ?_ hBw.size); repeat (first | (with_reducible assumption) | (with_reducible exact Below.refl _ _) | (with_reducible refine Below.drew ?_) | (with_reducible refine below_drewN' ?_ _) | (with_reducible refine below_al ?_) | ((with_reducible refine below_set ?_ ?_); rotate_left; focus (first | (simp; done) | (simp; omega))))))
          clear hK K hHeld; have hHeld := hNew; clear hNew
          (try simp only [Act.put, List.setIfInBounds_toArray, List.set_cons_zero, List.set_cons_succ])
          refine wpAnyH_done (by kernel_rfl) ?_ _
          have zw := HZ0.out
          have k4' := T1 wT (.slice TA (dg (n / m)).length tc) k4
          have hDA := Lib.hid (((hT.set (k := w.heap.size + 1 + 1) (i := 0) (u := .slice TA (dg (n / m)).length tc) (Or.inl (by first | omega | (simp; omega)))).set (k := w.heap.size + 1 + 1 + 1) (i := 0) (u := .slice A l c) (Or.inl (by first | omega | (simp; omega)))))
          have hDB := Lib.hid ((((hD.out.below hBT).set (k := w.heap.size + 1 + 1) (i := 0) (u := .slice TA (dg (n / m)).length tc) (Or.inl (by first | omega | (simp; omega)))).set (k := w.heap.size + 1 + 1 + 1) (i := 0) (u := .slice A l c) (Or.inl (by first | omega | (simp; omega)))))
          have HS9 := Lib.hid hS9; clear hS8 hS9 HS hHeld zw
          go_wp2_with fail
          have hr9 := HQD.out.2
          subst hr9
          have hl9 := hl.out
          subst hl9
          have zw := HZ0.out
          refine bodyPost_ret (v := .tuple #[.agg #[.slice TA (dg (n / m)).length tc], .agg #[.slice A (dg (n % m)).length c]]) (by simp [results, Tryd.results84, go_sem, k4', k5]) rfl ?_
          exact ⟨TA, tc, A, c, rfl, hDA.out.wide (by simp; omega) (by simp), hDB.out.wide (by omega) (by simp; omega), HS9.out⟩
        case sy2 =>
          intro K hK
          have hS8 : Below w.heap.size w (wT.setCell ⟨w.heap.size + 1 + 1, 0, none⟩ (.slice TA (dg (n / m)).length tc)) := below_set (hBw.trans (hBT.mono hBw.size)) (by simp; omega)
          have k3s := blk_cell (blk_off (g := w.heap.size + 1 + 1) (q := 0) (v := .slice TA (dg (n / m)).length tc) (by have := HZ0.out; omega) (blk_st hBT hR.out)) (show (#[.slice A l c] : Array Value)[0]? = some _ from rfl)
          go_simp
          refine hK.out _ _ ?_ (fun hNew => ?_)
          · (refine HS.out _ ?_; first | (with_reducible exact hS9) | (with_reducible exact hS9.drew) | (with_reducible exact hS8) | (with_reducible exact hS8.drew) | (refine hBw.trans (Below.mono ?_ hBw.size); repeat (first | (with_reducible assumption) | (with_reducible exact Below.refl _ _) | (with_reducible refine Below.drew ?_) | (with_reducible refine below_drewN' ?_ _) | (with_reducible refine below_al ?_) | ((with_reducible refine below_set ?_ ?_); rotate_left; focus (first | (simp; done) | (simp; omega))))))
          clear hK K hHeld; have hHeld := hNew; clear hNew
          (try simp only [Act.put, List.setIfInBounds_toArray, List.set_cons_zero, List.set_cons_succ])
          refine wpAnyH_ready (rs := [2]) (by kernel_rfl) (by simp) ?_
          refine AllReadyH.cons (o := ?_) ?_ (fun K hK => ?_) AllReadyH.nil; rotate_left 1
          · ((try simp only [List.getElem?_toArray, List.getElem?_cons_succ, List.getElem?_cons_zero]); rfl)
          go_simp
          refine hK.out _ _ ?_ (fun hNew => ?_)
          · (refine HS.out _ ?_; first | (with_reducible exact hS9) | (with_reducible exact hS9.drew) | (with_reducible exact hS8) | (with_reducible exact hS8.drew) | (refine hBw.trans (Below.mono ?_ hBw.size); repeat (first | (with_reducible assumption) | (with_reducible exact Below.refl _ _) | (with_reducible refine Below.drew ?_) | (with_reducible refine below_drewN' ?_ _) | (with_reducible refine below_al ?_) | ((with_reducible refine below_set ?_ ?_); rotate_left; focus (first | (simp; done) | (simp; omega))))))
          clear hK K hHeld; have hHeld := hNew; clear hNew
          (try simp only [Act.put, List.setIfInBounds_toArray, List.set_cons_zero, List.set_cons_succ])
          refine wpAnyH_ready (rs := [4]) (by kernel_rfl) (by simp) ?_
          refine AllReadyH.cons (o := ?_) ?_ (fun K hK => ?_) AllReadyH.nil; rotate_left 1
          · ((try simp only [List.getElem?_toArray, List.getElem?_cons_succ, List.getElem?_cons_zero]); rfl)
          have hS9 : Below w.heap.size w ((wT.setCell ⟨w.heap.size + 1 + 1, 0, none⟩ (.slice TA (dg (n / m)).length tc)).setCell ⟨w.heap.size + 1 + 1 + 1, 0, none⟩ (.slice A l c)) := below_set hS8 (by simp; omega)
          go_simp
          refine hK.out _ _ ?_ (fun hNew => ?_)
          · (refine HS.out _ ?_; first | (with_reducible exact hS9) | (with_reducible exact hS9.drew) | (with_reducible exact hS8) | (with_reducible exact hS8.drew) | (refine hBw.trans (Below.mono ?_ hBw.size); repeat (first | (with_reducible assumption) | (with_reducible exact Below.refl _ _) | (with_reducible refine Below.drew ?_) | (with_reducible refine below_drewN' ?_ _) | (with_reducible refine below_al ?_) | ((with_reducible refine below_set ?_ ?_); rotate_left; focus (first | (simp; done) | (simp; omega))))))
          clear hK K hHeld; have hHeld := hNew; clear hNew
          (try simp only [Act.put, List.setIfInBounds_toArray, List.set_cons_zero, List.set_cons_succ])
          refine wpAnyH_done (by kernel_rfl) ?_ _
          have zw := HZ0.out
          have k4' := T1 wT (.slice TA (dg (n / m)).length tc) k4
          have hDA := Lib.hid (((hT.set (k := w.heap.size + 1 + 1) (i := 0) (u := .slice TA (dg (n / m)).length tc) (Or.inl (by first | omega | (simp; omega)))).set (k := w.heap.size + 1 + 1 + 1) (i := 0) (u := .slice A l c) (Or.inl (by first | omega | (simp; omega)))))
          have hDB := Lib.hid ((((hD.out.below hBT).set (k := w.heap.size + 1 + 1) (i := 0) (u := .slice TA (dg (n / m)).length tc) (Or.inl (by first | omega | (simp; omega)))).set (k := w.heap.size + 1 + 1 + 1) (i := 0) (u := .slice A l c) (Or.inl (by first | omega | (simp; omega)))))
          have HS9 := Lib.hid hS9; clear hS8 hS9 HS hHeld zw
          go_wp2_with fail
          have hr9 := HQD.out.2
          subst hr9
          have hl9 := hl.out
          subst hl9
          have zw := HZ0.out
          refine bodyPost_ret (v := .tuple #[.agg #[.slice TA (dg (n / m)).length tc], .agg #[.slice A (dg (n % m)).length c]]) (by simp [results, Tryd.results84, go_sem, k4', k5]) rfl ?_
          exact ⟨TA, tc, A, c, rfl, hDA.out.wide (by simp; omega) (by simp), hDB.out.wide (by omega) (by simp; omega), HS9.out⟩
      case sz2 =>
        intro K hK
        go_simp
        refine hK.out _ _ ?_ (fun hNew => ?_)
        · (refine HS.out _ ?_; first | (with_reducible exact hS9) | (with_reducible exact hS9.drew) | (with_reducible exact hS8) | (with_reducible exact hS8.drew) | (refine hBw.trans (Below.mono ?_ hBw.size); repeat (first | (with_reducible assumption) | (with_reducible exact Below.refl _ _) | (with_reducible refine Below.drew ?_) | (with_reducible refine below_drewN' ?_ _) | (with_reducible refine below_al ?_) | ((with_reducible refine below_set ?_ ?_); rotate_left; focus (first | (simp; done) | (simp; omega))))))
        clear hK K hHeld; have hHeld := hNew; clear hNew
        (try simp only [Act.put, List.setIfInBounds_toArray, List.set_cons_zero, List.set_cons_succ])
        refine wpAnyH_ready (rs := [1]) (by kernel_rfl) (by simp) ?_
        refine AllReadyH.cons (o := ?_) ?_ (fun K hK => ?_) AllReadyH.nil; rotate_left 1
        · ((try simp only [List.getElem?_toArray, List.getElem?_cons_succ, List.getElem?_cons_zero]); rfl)
        go_simp
        refine (trim_c (some ⟨w0.heap.size, 0, none⟩) la la L HLA.out.symm HPL.out (by rw [HLA.out]; omega) (by rw [HLA.out]; omega) _ (HDI.out.below (by repeat (first | (with_reducible assumption) | (with_reducible exact Below.refl _ _) | (with_reducible refine Below.drew ?_) | (with_reducible refine below_drewN' ?_ _) | (with_reducible refine below_al ?_) | ((with_reducible refine below_set ?_ ?_); rotate_left; focus (first | (simp; done) | (simp; omega))))))).mono ?_; intro e wT hbr; rw [HQD.out.1] at hbr; obtain ⟨TA, tc, rfl, hT, hbT⟩ := hbr
        have hBT : Below wr.heap.size wr wT := below_step (w := wr) hbT (by repeat (first | (with_reducible assumption) | (with_reducible exact Below.refl _ _) | (with_reducible refine Below.drew ?_) | (with_reducible refine below_drewN' ?_ _) | (with_reducible refine below_al ?_) | ((with_reducible refine below_set ?_ ?_); rotate_left; focus (first | (simp; done) | (simp; omega)))))
        have k3 := below_some hBT _ _ _ g3
        have k4 := below_some hBT _ _ _ gr4; have k5 := below_some hBT _ _ _ gr5
        have m4 := (hBT.frozen (p := ⟨w.heap.size + 1 + 1, 0, none⟩) lr4).trans gf4; have m5 := (hBT.frozen (p := ⟨w.heap.size + 1 + 1 + 1, 0, none⟩) lr5).trans gf5
        have zT := hBT.size
        (try go_wp2_with fail)
        refine hK.out _ _ ?_ (fun hNew => ?_)
        · (refine HS.out _ ?_; first | (with_reducible exact hS9) | (with_reducible exact hS9.drew) | (with_reducible exact hS8) | (with_reducible exact hS8.drew) | (refine hBw.trans (Below.mono ?_ hBw.size); repeat (first | (with_reducible assumption) | (with_reducible exact Below.refl _ _) | (with_reducible refine Below.drew ?_) | (with_reducible refine below_drewN' ?_ _) | (with_reducible refine below_al ?_) | ((with_reducible refine below_set ?_ ?_); rotate_left; focus (first | (simp; done) | (simp; omega))))))
        clear hK K hHeld; have hHeld := hNew; clear hNew
        (try simp only [Act.put, List.setIfInBounds_toArray, List.set_cons_zero, List.set_cons_succ])
        refine wpAnyH_ready (rs := [3]) (by kernel_rfl) (by simp) ?_
        refine AllReadyH.cons (o := ?_) ?_ (fun K hK => ?_) AllReadyH.nil; rotate_left 1
        · ((try simp only [List.getElem?_toArray, List.getElem?_cons_succ, List.getElem?_cons_zero]); rfl)
        have hS8 : Below w.heap.size w (wT.setCell ⟨w.heap.size + 1 + 1, 0, none⟩ (.slice TA (dg (n / m)).length tc)) := below_set (hBw.trans (hBT.mono hBw.size)) (by simp; omega)
        go_simp
        refine hK.out _ _ ?_ (fun hNew => ?_)
        · (refine HS.out _ ?_; first | (with_reducible exact hS9) | (with_reducible exact hS9.drew) | (with_reducible exact hS8) | (with_reducible exact hS8.drew) | (refine hBw.trans (Below.mono ?_ hBw.size); repeat (first | (with_reducible assumption) | (with_reducible exact Below.refl _ _) | (with_reducible refine Below.drew ?_) | (with_reducible refine below_drewN' ?_ _) | (with_reducible refine below_al ?_) | ((with_reducible refine below_set ?_ ?_); rotate_left; focus (first | (simp; done) | (simp; omega))))))
        clear hK K hHeld; have hHeld := hNew; clear hNew
        (try simp only [Act.put, List.setIfInBounds_toArray, List.set_cons_zero, List.set_cons_succ])
        refine wpAnyH_ready (rs := [4]) (by kernel_rfl) (by simp) ?_
        refine AllReadyH.cons (o := ?_) ?_ (fun K hK => ?_) AllReadyH.nil; rotate_left 1
        · ((try simp only [List.getElem?_toArray, List.getElem?_cons_succ, List.getElem?_cons_zero]); rfl)
        have hS9 : Below w.heap.size w ((wT.setCell ⟨w.heap.size + 1 + 1, 0, none⟩ (.slice TA (dg (n / m)).length tc)).setCell ⟨w.heap.size + 1 + 1 + 1, 0, none⟩ (.slice A l c)) := below_set hS8 (by simp; omega)
        go_simp
        refine hK.out _ _ ?_ (fun hNew => ?_)
        · (refine HS.out _ ?_; first | (with_reducible exact hS9) | (with_reducible exact hS9.drew) | (with_reducible exact hS8) | (with_reducible exact hS8.drew) | (refine hBw.trans (Below.mono ?_ hBw.size); repeat (first | (with_reducible assumption) | (with_reducible exact Below.refl _ _) | (with_reducible refine Below.drew ?_) | (with_reducible refine below_drewN' ?_ _) | (with_reducible refine below_al ?_) | ((with_reducible refine below_set ?_ ?_); rotate_left; focus (first | (simp; done) | (simp; omega))))))
        clear hK K hHeld; have hHeld := hNew; clear hNew
        (try simp only [Act.put, List.setIfInBounds_toArray, List.set_cons_zero, List.set_cons_succ])
        refine wpAnyH_done (by kernel_rfl) ?_ _
        have zw := HZ0.out
        have k4' := T1 wT (.slice TA (dg (n / m)).length tc) k4
        have hDA := Lib.hid (((hT.set (k := w.heap.size + 1 + 1) (i := 0) (u := .slice TA (dg (n / m)).length tc) (Or.inl (by first | omega | (simp; omega)))).set (k := w.heap.size + 1 + 1 + 1) (i := 0) (u := .slice A l c) (Or.inl (by first | omega | (simp; omega)))))
        have hDB := Lib.hid ((((hD.out.below hBT).set (k := w.heap.size + 1 + 1) (i := 0) (u := .slice TA (dg (n / m)).length tc) (Or.inl (by first | omega | (simp; omega)))).set (k := w.heap.size + 1 + 1 + 1) (i := 0) (u := .slice A l c) (Or.inl (by first | omega | (simp; omega)))))
        have HS9 := Lib.hid hS9; clear hS8 hS9 HS hHeld zw
        go_wp2_with fail
        have hr9 := HQD.out.2
        subst hr9
        have hl9 := hl.out
        subst hl9
        have zw := HZ0.out
        refine bodyPost_ret (v := .tuple #[.agg #[.slice TA (dg (n / m)).length tc], .agg #[.slice A (dg (n % m)).length c]]) (by simp [results, Tryd.results84, go_sem, k4', k5]) rfl ?_
        exact ⟨TA, tc, A, c, rfl, hDA.out.wide (by simp; omega) (by simp), hDB.out.wide (by omega) (by simp; omega), HS9.out⟩
    | succ k => exact absurd hk (by have := hz.out; omega)
theorem bquot_c (A B : Option Addr) (ca cb n m la lb : Nat) (hm : 0 < m) (hla : Hid ((dg n).length = la)) (hlb : Hid ((dg m).length = lb)) (bla : la ≤ 1000) (blb : lb ≤ 1000) (w : World) (ha : DIn w A (dg n)) (hb : DIn w B (dg m)) : Calls Tryd.prog 84 #[.agg #[.slice A la ca], .agg #[.slice B lb cb]] w (QuotRet (n / m) (n % m) w) := by
  rcases ha with h | ⟨ba, oa, rfl, hba, hca⟩
  · have h0 : la = 0 := by rw [← hla.out, h]; rfl
    exact bquot_nil A B ca cb n m la lb hm hla (Lib.hid h0) hlb bla blb w hb
  · exact bquot_at ba oa B ca cb n m la lb hm hla hlb bla blb w hba (fun j hj => by rw [hca j (by rw [hla.out]; exact hj), pt_at]) hb
end Go.Proofs.YtjcjchapfiokeaaDoor
