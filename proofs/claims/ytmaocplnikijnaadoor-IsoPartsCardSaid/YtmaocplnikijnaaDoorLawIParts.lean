/- The walk of IsoParts: the law returns true for every input. Conditions: the table of months' lengths lies as the program's text lays it. -/
import Derived.Test.YtmaocplnikijnaaDoorLawIPartsY
import Derived.Test.YtmaocplnikijnaaDoorLawIPartsN
namespace Go.Proofs.YtmaocplnikijnaaDoor
open Go.RowKit
set_option linter.unusedVariables false
theorem isoParts_walk (y m d a c : Int) (hy : 0 ≤ y ∧ y ≤ 65535) (hm : 0 ≤ m ∧ m ≤ 255) (hd : 0 ≤ d ∧ d ≤ 255) (ha : 0 ≤ a ∧ a ≤ 255) (hc : 0 ≤ c ∧ c ≤ 255) (w : World) (hL : Laid w) : Calls Tryd.prog 12 #[.agg #[.int .u16 y, .int .u8 m, .int .u8 d, .int .u8 a, .int .u8 c]] w fun e w' => e = .returned (.bool true) ∧ Below w.heap.size w w' := by
  obtain ⟨i, hi⟩ : ∃ i : Nat, a % 10 = (i : Int) := ⟨(a % 10).toNat, by omega⟩
  have hi10 : i < 10 := by omega
  have hcc := Iso.okC_c (i := i) hc.1 hc.2
  obtain ⟨p, hp⟩ : ∃ p, y % 10000 = p := ⟨_, rfl⟩
  obtain ⟨q, hq⟩ : ∃ q, m % 100 = q := ⟨_, rfl⟩
  obtain ⟨r, hr⟩ : ∃ r, d % 100 = r := ⟨_, rfl⟩
  have key : Iso.okC i (UInt8.ofNat c.toNat) = true → Iso.rdE (Iso.tSet p q r i c) = 0 → (Iso.tSet p q r i c == Iso.text p q r) = false → (Iso.rdV (Iso.tSet p q r i c) != numV p q r) = true := by
    intro _ h0 hne
    rw [bne_iff_ne]
    intro he
    obtain ⟨v1, v2, v3⟩ := Iso.read_show h0
    cases hm' : Cal.mayB p q r
    · rw [(numV_no hm').1] at he; omega
    · have hE : Iso.rdE (Iso.text p q r) = 0 := by
        obtain ⟨g1, g2, g3⟩ := Iso.text_read p q r (by omega) (by omega) (by omega) (by omega) (by omega) (by omega)
        unfold Iso.rdE; rw [if_pos (Iso.text_sh p q r), g1, g2, g3, (numV_yes hm').2]
      have hV : Iso.rdV (Iso.text p q r) = numV p q r := by
        obtain ⟨g1, g2, g3⟩ := Iso.text_read p q r (by omega) (by omega) (by omega) (by omega) (by omega) (by omega)
        unfold Iso.rdV; rw [if_pos (Iso.text_sh p q r), g1, g2, g3]
      have := Iso.read_one h0 hE (he.trans hV.symm)
      rw [this] at hne; simp at hne
  cases hv : Cal.mayB p q r
  · by_cases h4 : i = 4
    · by_cases h45 : c = 45
      · have ok : Iso.okC i (UInt8.ofNat c.toNat) = true := by rw [Iso.okC_dash (Or.inl h4)]; exact decide_eq_true (by omega)
        rcases Iso.tSet_yes (p := p) (q := q) (r := r) hi10 ok with t2 | t2
        · cases t3 : (Iso.tSet p q r i c == Iso.text p q r)
          · exact isoParts_n4Z y m d a c p q r i hy hm hd ha hc hp hq hr hi hi10 hv h4 h45 t2 t3 (key ok t2 t3) w hL
          · exact isoParts_n4Y y m d a c p q r i hy hm hd ha hc hp hq hr hi hi10 hv h4 h45 t2 t3 w hL
        · exact isoParts_n4X y m d a c p q r i hy hm hd ha hc hp hq hr hi hi10 hv h4 h45 t2 w hL
      · obtain ⟨t1, t2⟩ := Iso.tSet_no (p := p) (q := q) (r := r) hi10 (show Iso.okC i (UInt8.ofNat c.toNat) = false by rw [Iso.okC_dash (Or.inl h4)]; exact decide_eq_false (by omega))
        exact isoParts_n4A y m d a c p q r i hy hm hd ha hc hp hq hr hi hi10 hv h4 t1 t2 (bne_iff_ne.2 h45) w hL
    by_cases h7 : i = 7
    · by_cases h45 : c = 45
      · have ok : Iso.okC i (UInt8.ofNat c.toNat) = true := by rw [Iso.okC_dash (Or.inr h7)]; exact decide_eq_true (by omega)
        rcases Iso.tSet_yes (p := p) (q := q) (r := r) hi10 ok with t2 | t2
        · cases t3 : (Iso.tSet p q r i c == Iso.text p q r)
          · exact isoParts_n7Z y m d a c p q r i hy hm hd ha hc hp hq hr hi hi10 hv h7 h45 t2 t3 (key ok t2 t3) w hL
          · exact isoParts_n7Y y m d a c p q r i hy hm hd ha hc hp hq hr hi hi10 hv h7 h45 t2 t3 w hL
        · exact isoParts_n7X y m d a c p q r i hy hm hd ha hc hp hq hr hi hi10 hv h7 h45 t2 w hL
      · obtain ⟨t1, t2⟩ := Iso.tSet_no (p := p) (q := q) (r := r) hi10 (show Iso.okC i (UInt8.ofNat c.toNat) = false by rw [Iso.okC_dash (Or.inr h7)]; exact decide_eq_false (by omega))
        exact isoParts_n7A y m d a c p q r i hy hm hd ha hc hp hq hr hi hi10 hv h7 t1 t2 (bne_iff_ne.2 h45) w hL
    by_cases hlo : c < 48
    · obtain ⟨t1, t2⟩ := Iso.tSet_no (p := p) (q := q) (r := r) hi10 (show Iso.okC i (UInt8.ofNat c.toNat) = false by rw [Iso.okC_dig (show ¬ (i = 4 ∨ i = 7) by omega)]; exact decide_eq_false (by omega))
      exact isoParts_noA y m d a c p q r i hy hm hd ha hc hp hq hr hi hi10 hv h4 h7 t1 t2 hlo w hL
    by_cases hhi : 57 < c
    · obtain ⟨t1, t2⟩ := Iso.tSet_no (p := p) (q := q) (r := r) hi10 (show Iso.okC i (UInt8.ofNat c.toNat) = false by rw [Iso.okC_dig (show ¬ (i = 4 ∨ i = 7) by omega)]; exact decide_eq_false (by omega))
      exact isoParts_noB y m d a c p q r i hy hm hd ha hc hp hq hr hi hi10 hv h4 h7 t1 t2 (by omega) hhi w hL
    · have ok : Iso.okC i (UInt8.ofNat c.toNat) = true := by rw [Iso.okC_dig (show ¬ (i = 4 ∨ i = 7) by omega)]; exact decide_eq_true (by omega)
      rcases Iso.tSet_yes (p := p) (q := q) (r := r) hi10 ok with t2 | t2
      · cases t3 : (Iso.tSet p q r i c == Iso.text p q r)
        · exact isoParts_noZ y m d a c p q r i hy hm hd ha hc hp hq hr hi hi10 hv h4 h7 (by omega) (by omega) t2 t3 (key ok t2 t3) w hL
        · exact isoParts_noY y m d a c p q r i hy hm hd ha hc hp hq hr hi hi10 hv h4 h7 (by omega) (by omega) t2 t3 w hL
      · exact isoParts_noX y m d a c p q r i hy hm hd ha hc hp hq hr hi hi10 hv h4 h7 (by omega) (by omega) t2 w hL
  · by_cases h4 : i = 4
    · by_cases h45 : c = 45
      · have ok : Iso.okC i (UInt8.ofNat c.toNat) = true := by rw [Iso.okC_dash (Or.inl h4)]; exact decide_eq_true (by omega)
        rcases Iso.tSet_yes (p := p) (q := q) (r := r) hi10 ok with t2 | t2
        · cases t3 : (Iso.tSet p q r i c == Iso.text p q r)
          · exact isoParts_y4Z y m d a c p q r i hy hm hd ha hc hp hq hr hi hi10 hv h4 h45 t2 t3 (key ok t2 t3) w hL
          · exact isoParts_y4Y y m d a c p q r i hy hm hd ha hc hp hq hr hi hi10 hv h4 h45 t2 t3 w hL
        · exact isoParts_y4X y m d a c p q r i hy hm hd ha hc hp hq hr hi hi10 hv h4 h45 t2 w hL
      · obtain ⟨t1, t2⟩ := Iso.tSet_no (p := p) (q := q) (r := r) hi10 (show Iso.okC i (UInt8.ofNat c.toNat) = false by rw [Iso.okC_dash (Or.inl h4)]; exact decide_eq_false (by omega))
        exact isoParts_y4A y m d a c p q r i hy hm hd ha hc hp hq hr hi hi10 hv h4 t1 t2 (bne_iff_ne.2 h45) w hL
    by_cases h7 : i = 7
    · by_cases h45 : c = 45
      · have ok : Iso.okC i (UInt8.ofNat c.toNat) = true := by rw [Iso.okC_dash (Or.inr h7)]; exact decide_eq_true (by omega)
        rcases Iso.tSet_yes (p := p) (q := q) (r := r) hi10 ok with t2 | t2
        · cases t3 : (Iso.tSet p q r i c == Iso.text p q r)
          · exact isoParts_y7Z y m d a c p q r i hy hm hd ha hc hp hq hr hi hi10 hv h7 h45 t2 t3 (key ok t2 t3) w hL
          · exact isoParts_y7Y y m d a c p q r i hy hm hd ha hc hp hq hr hi hi10 hv h7 h45 t2 t3 w hL
        · exact isoParts_y7X y m d a c p q r i hy hm hd ha hc hp hq hr hi hi10 hv h7 h45 t2 w hL
      · obtain ⟨t1, t2⟩ := Iso.tSet_no (p := p) (q := q) (r := r) hi10 (show Iso.okC i (UInt8.ofNat c.toNat) = false by rw [Iso.okC_dash (Or.inr h7)]; exact decide_eq_false (by omega))
        exact isoParts_y7A y m d a c p q r i hy hm hd ha hc hp hq hr hi hi10 hv h7 t1 t2 (bne_iff_ne.2 h45) w hL
    by_cases hlo : c < 48
    · obtain ⟨t1, t2⟩ := Iso.tSet_no (p := p) (q := q) (r := r) hi10 (show Iso.okC i (UInt8.ofNat c.toNat) = false by rw [Iso.okC_dig (show ¬ (i = 4 ∨ i = 7) by omega)]; exact decide_eq_false (by omega))
      exact isoParts_yoA y m d a c p q r i hy hm hd ha hc hp hq hr hi hi10 hv h4 h7 t1 t2 hlo w hL
    by_cases hhi : 57 < c
    · obtain ⟨t1, t2⟩ := Iso.tSet_no (p := p) (q := q) (r := r) hi10 (show Iso.okC i (UInt8.ofNat c.toNat) = false by rw [Iso.okC_dig (show ¬ (i = 4 ∨ i = 7) by omega)]; exact decide_eq_false (by omega))
      exact isoParts_yoB y m d a c p q r i hy hm hd ha hc hp hq hr hi hi10 hv h4 h7 t1 t2 (by omega) hhi w hL
    · have ok : Iso.okC i (UInt8.ofNat c.toNat) = true := by rw [Iso.okC_dig (show ¬ (i = 4 ∨ i = 7) by omega)]; exact decide_eq_true (by omega)
      rcases Iso.tSet_yes (p := p) (q := q) (r := r) hi10 ok with t2 | t2
      · cases t3 : (Iso.tSet p q r i c == Iso.text p q r)
        · exact isoParts_yoZ y m d a c p q r i hy hm hd ha hc hp hq hr hi hi10 hv h4 h7 (by omega) (by omega) t2 t3 (key ok t2 t3) w hL
        · exact isoParts_yoY y m d a c p q r i hy hm hd ha hc hp hq hr hi hi10 hv h4 h7 (by omega) (by omega) t2 t3 w hL
      · exact isoParts_yoX y m d a c p q r i hy hm hd ha hc hp hq hr hi hi10 hv h4 h7 (by omega) (by omega) t2 w hL
end Go.Proofs.YtmaocplnikijnaaDoor
