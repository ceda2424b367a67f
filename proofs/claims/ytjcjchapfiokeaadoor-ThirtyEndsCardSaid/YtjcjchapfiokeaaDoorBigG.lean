/- Numbers of any size, the document's: the greatest common divisor. Conditions: sizes far below the machine's. -/
import Derived.Test.YtjcjchapfiokeaaDoorBigE
import Derived.Test.YtjcjchapfiokeaaDoorBigF
namespace Go.Proofs.YtjcjchapfiokeaaDoor
open Go.RowKit
set_option linter.unusedVariables false
set_option linter.unusedSimpArgs false
/-- A row that lies outside the three boxes k, k+1, k+2. -/
def DOff (w : World) (k : Nat) (D : Option Addr) (ds : List Int) : Prop := ds = [] ∨ ∃ b o, D = some ⟨b, o, none⟩ ∧ b < w.heap.size ∧ (b < k ∨ k + 3 ≤ b) ∧ ∀ j, j < ds.length → w.cell? ⟨b, o + j, none⟩ = some (.int .i64 (ds.getD j 0))
theorem DOff.row {w : World} {k : Nat} {D : Option Addr} {ds : List Int} (h : DOff w k D ds) : DIn w D ds := by
  rcases h with h | ⟨b, o, h1, h2, h3, h4⟩
  · exact Or.inl h
  · exact Or.inr ⟨b, o, h1, h2, h4⟩
theorem DOff.below {w w' : World} {k : Nat} {D : Option Addr} {ds : List Int} (h : DOff w k D ds) (hb : Below w.heap.size w w') : DOff w' k D ds := by
  rcases h with h | ⟨b, o, h1, h2, h3, h4⟩
  · exact Or.inl h
  · exact Or.inr ⟨b, o, h1, Nat.lt_of_lt_of_le h2 hb.size, h3, fun j hj => (hb.cell (p := ⟨b, o + j, none⟩) h2).trans (h4 j hj)⟩
theorem DOff.of {w : World} {k : Nat} {D : Option Addr} {ds : List Int} (h : DIn w D ds) (hk : w.heap.size ≤ k) : DOff w k D ds := by
  rcases h with h | ⟨b, o, h1, h2, h3⟩
  · exact Or.inl h
  · exact Or.inr ⟨b, o, h1, h2, Or.inl (by omega), h3⟩
theorem DOff.fresh {w : World} {lo hi k : Nat} {D : Option Addr} {ds : List Int} (h : DBt w lo hi D ds) (hk : k + 3 ≤ lo) (hh : hi ≤ w.heap.size) : DOff w k D ds := by
  rcases h with h | ⟨b, o, h1, h2, h3, h4⟩
  · exact Or.inl h
  · exact Or.inr ⟨b, o, h1, by omega, Or.inr (by omega), h4⟩
theorem DOff.set {w : World} {k g i : Nat} {u : Value} {D : Option Addr} {ds : List Int} (h : DOff w k D ds) (h1 : k ≤ g) (h2 : g < k + 3) : DOff (w.setCell ⟨g, i, none⟩ u) k D ds := by
  rcases h with h | ⟨b, o, e1, e2, e3, e4⟩
  · exact Or.inl h
  · refine Or.inr ⟨b, o, e1, by simpa using e2, e3, fun j hj => ?_⟩
    have hne : g ≠ b := by omega
    have := e4 j hj
    simp only [World.cell?] at this ⊢
    simpa [World.setCell, Array.getElem?_modify, hne] using this
/-- A number's row, new or one that stood before. -/
def BigAt (n : Nat) (w : World) (e : Ending) (w' : World) : Prop := ∃ (A : Option Addr) (c : Nat), e = .returned (.agg #[.slice A (dg n).length c]) ∧ DIn w' A (dg n) ∧ Below w.heap.size w w'
def rowOf (w : World) (b o l : Nat) : List Int := (List.range l).map fun j => match w.cell? ⟨b, o + j, none⟩ with | some (.int _ x) => x | _ => 0
/-- The number whose row the box g holds. -/
def boxed (w : World) (g : Nat) : Nat := match w.cell? ⟨g, 0, none⟩ with
  | some (.slice (some ⟨b, o, none⟩) l _) => (vl (rowOf w b o l)).toNat
  | _ => 0
theorem boxed_of {w : World} {g m l c : Nat} {B : Option Addr} (h : w.cell? ⟨g, 0, none⟩ = some (.slice B l c)) (hl : (dg m).length = l) (hd : DIn w B (dg m)) : boxed w g = m := by
  rcases hd with hd | ⟨b, o, rfl, h2, h3⟩
  · have h0 : l = 0 := by rw [← hl, hd]; rfl
    have hm : m = 0 := dg_nil.1 (by rw [hd]; rfl)
    subst h0 hm
    unfold boxed
    rw [h]
    cases B with
    | none => rfl
    | some p => rcases p with ⟨b, o, f⟩; cases f <;> rfl
  · unfold boxed
    rw [h]
    have e : rowOf w b o l = dg m := by
      unfold rowOf
      apply List.ext_getElem (by simp [hl])
      intro j h5 h6
      simp only [List.getElem_map, List.getElem_range]
      rw [h3 j h6]
      simp [List.getD_eq_getElem?_getD, List.getElem?_eq_getElem h6]
    show (vl (rowOf w b o l)).toNat = m
    rw [e, vl_dg]
    exact Int.toNat_natCast _
set_option maxRecDepth 100000 in
set_option maxHeartbeats 8000000 in
theorem bgcd_c (A B : Option Addr) (ca cb n m la lb : Nat) (hla : Hid ((dg n).length = la)) (hlb : Hid ((dg m).length = lb)) (bla : la ≤ 1000) (blb : lb ≤ 1000) (w : World) (ha : DIn w A (dg n)) (hb : DIn w B (dg m)) : Calls Tryd.prog 83 #[.agg #[.slice A la ca], .agg #[.slice B lb cb]] w (BigAt (Nat.gcd n m) w) := by
  go_enter Tryd.func83, Tryd.ntmps83
  go_upto_region 0 with fail
  go_wp2_with fail
  generalize hW : (((w.alloc _).alloc _).alloc _) = w0
  have hB0 : Below w.heap.size w w0 := by rw [← hW]; exact below_al (below_al (below_al (Below.refl _ _)))
  have hz0w : w0.heap.size = w.heap.size + 3 := by rw [← hW]; simp
  have hca : w0.heap[w.heap.size]? = some (.cells #[.slice A la ca] 102 (0, 0)) := by rw [← hW]; exact blk_al (blk_al (blk_nu rfl))
  have hcb : w0.heap[w.heap.size + 1]? = some (.cells #[.slice B lb cb] 102 (0, 0)) := by rw [← hW]; exact blk_al (blk_nu (by simp))
  have hcr : w0.heap[w.heap.size + 1 + 1]? = some (.cells #[.slice none 0 0] 102 (0, 0)) := by rw [← hW]; exact blk_nu (by simp)
  have hda : DOff w0 w.heap.size A (dg n) := (DOff.of ha (Nat.le_refl _)).below hB0
  have hdb : DOff w0 w.heap.size B (dg m) := (DOff.of hb (Nat.le_refl _)).below hB0
  clear hW
  go_loopw [] (fun wr => ∃ (a b l l' : Nat) (A' B' : Option Addr) (c c' : Nat), l ≤ 1000 ∧ l' ≤ 1000 ∧ Hid (Nat.gcd a b = Nat.gcd n m) ∧ Hid ((dg a).length = l) ∧ Hid ((dg b).length = l') ∧ Hid (wr.heap[w.heap.size]? = some (.cells #[.slice A' l c] 102 (0, 0))) ∧ Hid (wr.heap[w.heap.size + 1]? = some (.cells #[.slice B' l' c'] 102 (0, 0))) ∧ Hid (wr.heap[w.heap.size + 1 + 1]? = some (.cells #[.slice none 0 0] 102 (0, 0))) ∧ Hid (DOff wr w.heap.size A' (dg a)) ∧ Hid (DOff wr w.heap.size B' (dg b)) ∧ Hid (Below w.heap.size w wr)) (fun wr => boxed wr (w.heap.size + 1))
  case atStart => exact ⟨n, m, la, lb, A, B, ca, cb, bla, blb, Lib.hid rfl, hla, hlb, Lib.hid hca, Lib.hid hcb, Lib.hid hcr, Lib.hid hda, Lib.hid hdb, Lib.hid hB0⟩
  case round =>
    obtain ⟨a, b, l, l', A', B', c, c', hl1, hl2, hG, hLA, hLB, hCA, hCB, hCR, hDA, hDB, hBr⟩ := hrel
    clear hca hcb hcr hda hdb
    have g2 := blk_cell hCA.out (show (#[.slice A' l c] : Array Value)[0]? = some _ from rfl)
    have g3 := blk_cell hCB.out (show (#[.slice B' l' c'] : Array Value)[0]? = some _ from rfl)
    by_cases hb0 : b = 0
    · subst hb0
      have e0 : l' = 0 := by rw [← hLB.out, dg_zero]; rfl
      subst e0
      have hr0 := blk_cell hCR.out (show (#[.slice none 0 0] : Array Value)[0]? = some _ from rfl)
      have hrf : wr.frozen? ⟨w.heap.size + 1 + 1, 0, none⟩ = false := blk_free hCR.out
      go_wp2_with fail
      have e1 := hG.out
      rw [Nat.gcd_zero_right] at e1
      subst e1
      have e2 := hLA.out
      subst e2
      have hT := blk_set (i := 0) (u := .slice A' (dg (Nat.gcd n m)).length c) hCR.out
      have hT2 := blk_cell (i := 0) hT (v := .slice A' (dg (Nat.gcd n m)).length c) rfl
      refine bodyPost_ret (v := .agg #[.slice A' (dg (Nat.gcd n m)).length c]) (by simp [results, Tryd.results83, go_sem, hT2]) rfl ?_
      exact ⟨A', c, rfl, (hDA.out.set (by omega) (by omega)).row, below_set hBr.out (by simp; omega)⟩
    · have hbp : 0 < b := by omega
      have lp : 0 < l' := by (rcases Nat.eq_zero_or_pos l' with e | e; exact absurd (dg_nil.1 (by rw [hLB.out, e])) hb0; exact e)
      have d1 : decide ((0 : Int) < (l' : Int)) = true := decide_eq_true (by omega)
      go_wp2_with fail
      refine (bquot_c A' B' c c' a b l l' hbp hLA hLB hl1 hl2 _ hDA.out.row hDB.out.row).mono ?_
      rintro e wq ⟨QA, qc, RB, rc, rfl, hQ, hR, hbq⟩
      have q2 := blk_cell (blk_st hbq hCA.out) (show (#[.slice A' l c] : Array Value)[0]? = some _ from rfl)
      have q3 := blk_cell (blk_st hbq hCB.out) (show (#[.slice B' l' c'] : Array Value)[0]? = some _ from rfl)
      have f2 : wq.frozen? ⟨w.heap.size, 0, none⟩ = false := blk_free (blk_st hbq hCA.out)
      have f3 : wq.frozen? ⟨w.heap.size + 1, 0, none⟩ = false := blk_free (blk_st hbq hCB.out)
      go_upto_region 3 with fail
      generalize hW2 : ((wq.alloc _).alloc _) = w2
      have zq := hbq.size
      have zr := hBr.out.size
      have zk := blk_lt hCR.out
      have bA := Lib.hid (show w2.heap[w.heap.size]? = some (.cells #[.slice A' l c] 102 (0, 0)) by rw [← hW2]; exact blk_al (blk_al (blk_st hbq hCA.out)))
      have bB := Lib.hid (show w2.heap[w.heap.size + 1]? = some (.cells #[.slice B' l' c'] 102 (0, 0)) by rw [← hW2]; exact blk_al (blk_al (blk_st hbq hCB.out)))
      have bR := Lib.hid (show w2.heap[w.heap.size + 1 + 1]? = some (.cells #[.slice none 0 0] 102 (0, 0)) by rw [← hW2]; exact blk_al (blk_al (blk_st hbq hCR.out)))
      have b6 := Lib.hid (show w2.heap[wq.heap.size + 1]? = some (.cells #[.slice RB (dg (a % b)).length rc] 102 (0, 0)) by rw [← hW2]; exact blk_nu (by simp))
      have B2 : Below wq.heap.size wq w2 := by rw [← hW2]; exact below_al (below_al (Below.refl _ _))
      have B3 : Below wr.heap.size wr w2 := hbq.trans (B2.mono hbq.size)
      have B4 := Lib.hid (hBr.out.trans (B3.mono hBr.out.size))
      have oB := Lib.hid (hDB.out.below B3)
      have oR := Lib.hid (DOff.fresh (k := w.heap.size) (hR.below B2) (by omega) (by have := B2.size; omega))
      clear hW2 q2 q3 f2 f3 g2 g3 B2 B3 hQ hR hbq
      have q3 := blk_cell bB.out (show (#[.slice B' l' c'] : Array Value)[0]? = some _ from rfl)
      have q2 := blk_cell bA.out (show (#[.slice A' l c] : Array Value)[0]? = some _ from rfl)
      have f2 : w2.frozen? ⟨w.heap.size, 0, none⟩ = false := blk_free bA.out
      go_upto_region 4 with fail
      generalize hW3 : (w2.setCell _ _) = w3
      have cA := Lib.hid (show w3.heap[w.heap.size]? = some (.cells #[.slice B' l' c'] 102 (0, 0)) by rw [← hW3]; have h := blk_set (i := 0) (u := .slice B' l' c') bA.out; simpa using h)
      have cB := Lib.hid (show w3.heap[w.heap.size + 1]? = some (.cells #[.slice B' l' c'] 102 (0, 0)) by rw [← hW3]; exact blk_off (by omega) bB.out)
      have cR := Lib.hid (show w3.heap[w.heap.size + 1 + 1]? = some (.cells #[.slice none 0 0] 102 (0, 0)) by rw [← hW3]; exact blk_off (by omega) bR.out)
      have c6 := Lib.hid (show w3.heap[wq.heap.size + 1]? = some (.cells #[.slice RB (dg (a % b)).length rc] 102 (0, 0)) by rw [← hW3]; exact blk_off (by omega) b6.out)
      have pB := Lib.hid (show DOff w3 w.heap.size B' (dg b) by rw [← hW3]; exact oB.out.set (by omega) (by omega))
      have pR := Lib.hid (show DOff w3 w.heap.size RB (dg (a % b)) by rw [← hW3]; exact oR.out.set (by omega) (by omega))
      have B5 := Lib.hid (show Below w.heap.size w w3 by rw [← hW3]; exact below_set B4.out (Nat.le_refl _))
      clear hW3 q2 q3 f2 bA bB bR b6 oB oR B4
      have q6 := blk_cell c6.out (show (#[.slice RB (dg (a % b)).length rc] : Array Value)[0]? = some _ from rfl)
      have q3 := blk_cell cB.out (show (#[.slice B' l' c'] : Array Value)[0]? = some _ from rfl)
      have f3 : w3.frozen? ⟨w.heap.size + 1, 0, none⟩ = false := blk_free cB.out
      obtain ⟨lr, hlr⟩ : ∃ lr, (dg (a % b)).length = lr := ⟨_, rfl⟩
      have hlr2 : lr ≤ 1000 := by (have h1 := dg_mono (Nat.le_of_lt (Nat.mod_lt a hbp)); rw [hLB.out, hlr] at h1; omega)
      rw [hlr] at q6 c6
      have hm1 : boxed wr (w.heap.size + 1) = b := boxed_of (blk_cell hCB.out rfl) hLB.out hDB.out.row
      have dA := Lib.hid (show (w3.setCell ⟨w.heap.size + 1, 0, none⟩ (.slice RB lr rc)).heap[w.heap.size]? = some (.cells #[.slice B' l' c'] 102 (0, 0)) from blk_off (by omega) cA.out)
      have dB := Lib.hid (show (w3.setCell ⟨w.heap.size + 1, 0, none⟩ (.slice RB lr rc)).heap[w.heap.size + 1]? = some (.cells #[.slice RB lr rc] 102 (0, 0)) by have h := blk_set (i := 0) (u := .slice RB lr rc) cB.out; simpa using h)
      have dR := Lib.hid (show (w3.setCell ⟨w.heap.size + 1, 0, none⟩ (.slice RB lr rc)).heap[w.heap.size + 1 + 1]? = some (.cells #[.slice none 0 0] 102 (0, 0)) from blk_off (by omega) cR.out)
      have rB := Lib.hid (show DOff (w3.setCell ⟨w.heap.size + 1, 0, none⟩ (.slice RB lr rc)) w.heap.size B' (dg b) from pB.out.set (by omega) (by omega))
      have rR := Lib.hid (show DOff (w3.setCell ⟨w.heap.size + 1, 0, none⟩ (.slice RB lr rc)) w.heap.size RB (dg (a % b)) from pR.out.set (by omega) (by omega))
      have B6 := Lib.hid (show Below w.heap.size w (w3.setCell ⟨w.heap.size + 1, 0, none⟩ (.slice RB lr rc)) from below_set B5.out (Nat.le_succ _))
      have hm2 : boxed (w3.setCell ⟨w.heap.size + 1, 0, none⟩ (.slice RB lr rc)) (w.heap.size + 1) = a % b := boxed_of (blk_cell dB.out rfl) hlr rR.out.row
      have HLR := Lib.hid hlr; have HM1 := Lib.hid hm1; have HM2 := Lib.hid hm2; clear hlr hm1 hm2
      have HG : Hid (Nat.gcd b (a % b) = Nat.gcd n m) := Lib.hid (by rw [← hG.out, Nat.gcd_comm a b, Nat.gcd_rec b a, Nat.gcd_comm])
      go_wp2_with fail
      go_roundw
      case rel => exact ⟨b, a % b, l', lr, B', RB, c', rc, hl2, hlr2, HG, hLB, HLR, dA, dB, dR, rB, rR, B6⟩
      case measure => rw [HM1.out, HM2.out]; exact Nat.mod_lt a hbp
end Go.Proofs.YtjcjchapfiokeaaDoor
