/- The contract of days of two rows, joined, sorted, each once. Conditions: sizes far below the machine's. -/
import Derived.Test.YtlilffoflkkbdaaDoorCatB
import Derived.Sort.OwnSortedInts
import Derived.Lib.SlicesCompact
import Derived.Lib.RowBridge
namespace Go.Proofs.YtlilffoflkkbdaaDoor
open Go.RowKit Go.Sort Go.Lib
set_option linter.unusedVariables false
/-- Days of both, rising, each once. -/
def uds (a b : List Int) : List Int := Lib.compact ((a ++ b).mergeSort fun x y => decide (x ≤ y))
/-! Of what is sorted, each once is rising, and has the same days. -/
theorem cu_law (d : Array Int) (n : Nat) (hs : ∀ i j : Nat, i ≤ j → j < n → d[i]! ≤ d[j]!) : ∀ m, m ≤ n → (compactUpTo d m).Pairwise (· < ·) ∧ ∀ x, x ∈ compactUpTo d m ↔ ∃ j : Nat, j < m ∧ d[j]! = x
  | 0, _ => ⟨List.Pairwise.nil, fun x => ⟨fun h => absurd h (by simp [compactUpTo]), fun ⟨j, hj, _⟩ => absurd hj (Nat.not_lt_zero _)⟩⟩
  | m + 1, hm => by
    obtain ⟨h1, h2⟩ := cu_law d n hs m (by omega)
    rw [compactUpTo_succ]
    cases hk : keeps d m
    · rw [if_neg (by decide), List.append_nil]
      refine ⟨h1, fun x => ⟨fun h => ?_, fun ⟨j, hj, e⟩ => ?_⟩⟩
      · obtain ⟨j, hj, e⟩ := (h2 x).1 h; exact ⟨j, by omega, e⟩
      · by_cases hjm : j = m
        · subst hjm
          unfold keeps at hk
          have hk := of_decide_eq_false hk
          have h0 : j ≠ 0 := fun e => hk (Or.inl e)
          have he : d[j]! = d[j - 1]! := Decidable.not_not.1 fun e => hk (Or.inr e)
          exact (h2 x).2 ⟨j - 1, by omega, by rw [← he]; exact e⟩
        · exact (h2 x).2 ⟨j, by omega, e⟩
    · rw [if_pos rfl]
      refine ⟨List.pairwise_append.2 ⟨h1, by simp, fun x hx y hy => ?_⟩, fun x => ?_⟩
      · obtain rfl : y = d[m]! := by simpa using hy
        obtain ⟨j, hj, e⟩ := (h2 x).1 hx
        have a1 := hs j (m - 1) (by omega) (by omega)
        have a2 := hs (m - 1) m (by omega) (by omega)
        unfold keeps at hk
        have hk := of_decide_eq_true hk
        rcases hk with h0 | h0
        · omega
        · omega
      · rw [List.mem_append]
        constructor
        · rintro (h | h)
          · obtain ⟨j, hj, e⟩ := (h2 x).1 h; exact ⟨j, by omega, e⟩
          · exact ⟨m, by omega, by simpa using (List.mem_singleton.1 h).symm⟩
        · rintro ⟨j, hj, e⟩
          by_cases hjm : j = m
          · subst hjm; right; rw [e]; simp
          · left; exact (h2 x).2 ⟨j, by omega, e⟩
theorem srt_at {l : List Int} (h : l.Pairwise (· ≤ ·)) (i j : Nat) (hij : i ≤ j) (hj : j < l.length) : l.toArray[i]! ≤ l.toArray[j]! := by
  have e : ∀ k : Nat, k < l.length → l.toArray[k]! = l[k]! := fun k hk => by simp
  by_cases he : i = j
  · subst he; exact Int.le_refl _
  · rw [e i (by omega), e j hj, getElem!_pos l i (by omega), getElem!_pos l j hj]
    exact List.pairwise_iff_getElem.1 h i j (by omega) hj (by omega)
theorem srt_le (l : List Int) : (l.mergeSort fun x y => decide (x ≤ y)).Pairwise (· ≤ ·) := by
  have h := List.pairwise_mergeSort (le := fun x y : Int => decide (x ≤ y)) (fun a b c h1 h2 => decide_eq_true (Int.le_trans (of_decide_eq_true h1) (of_decide_eq_true h2))) (fun a b => by
    rcases Int.le_total a b with h | h
    · show (decide (a ≤ b) || decide (b ≤ a)) = true
      rw [decide_eq_true h]; rfl
    · show (decide (a ≤ b) || decide (b ≤ a)) = true
      rw [decide_eq_true h, Bool.or_true]) l
  exact h.imp (fun h => of_decide_eq_true h)
theorem uds_law (a b : List Int) : (uds a b).Pairwise (· < ·) ∧ ∀ x, x ∈ uds a b ↔ x ∈ a ∨ x ∈ b := by
  have hs := srt_le (a ++ b)
  have h := cu_law ((a ++ b).mergeSort fun x y => decide (x ≤ y)).toArray ((a ++ b).mergeSort fun x y => decide (x ≤ y)).length (fun i j hij hj => srt_at hs i j hij hj) _ (Nat.le_refl _)
  refine ⟨h.1, fun x => ?_⟩
  rw [← List.mem_append]
  refine (h.2 x).trans ?_
  constructor
  · rintro ⟨j, hj, e⟩
    have : ((a ++ b).mergeSort fun x y => decide (x ≤ y))[j]! = x := by simpa using e
    rw [getElem!_pos _ j hj] at this
    rw [← this]; exact List.mem_mergeSort.1 (List.getElem_mem hj)
  · intro hx
    obtain ⟨j, hj, e⟩ := List.getElem_of_mem (List.mem_mergeSort.2 hx : x ∈ (a ++ b).mergeSort fun x y => decide (x ≤ y))
    exact ⟨j, hj, by rw [show ((a ++ b).mergeSort fun x y => decide (x ≤ y)).toArray[j]! = ((a ++ b).mergeSort fun x y => decide (x ≤ y))[j]! by simp, getElem!_pos _ j hj]; exact e⟩
theorem uds_len (a b : List Int) : (uds a b).length ≤ a.length + b.length := by
  have := Lib.compact_length_le ((a ++ b).mergeSort fun x y => decide (x ≤ y))
  rw [List.length_mergeSort, List.length_append] at this
  exact this
/-! The calls. -/
theorem catS_c (bl : Nat) (A B : Option Addr) (ca cb : Nat) (a b zs : List Int) (hzs : zs = a ++ b) (w : World) (hbl : bl < w.heap.size) (l0 : w.cell? ⟨bl, 0, none⟩ = some (.slice A a.length ca)) (l1 : w.cell? ⟨bl, 1, none⟩ = some (.slice B b.length cb))
    (ha : DIn w A a) (hb : DIn w B b) (na : a.length ≤ 1000000) (nb : b.length ≤ 1000000) :
    Calls Tryd.prog 79 #[.slice (some ⟨bl, 0, none⟩) 2 2] w fun e w' => (e = .returned (.slice none 0 0) ∧ zs = [] ∧ Below w.heap.size w w') ∨
      ∃ g cap, e = .returned (.slice (some ⟨g, 0, none⟩) zs.length cap) ∧ w.heap.size ≤ g ∧ g < w'.heap.size ∧ zs.length ≤ cap ∧ Holds (Value.int .i64) w' g 0 zs.toArray ∧ Below w.heap.size w w' := by
  subst hzs
  refine (catD_c bl A B ca cb a b w hbl l0 l1 ha hb na nb).mono fun e w' ⟨v, he, hown, hB⟩ => ?_
  rcases hown.2 with ⟨rfl, h0⟩ | ⟨g, cap, cur, rfl, hg, hh, hn, hcap, hsz, ht⟩
  · exact Or.inl ⟨he, List.eq_nil_of_length_eq_zero (by rw [List.length_append]; exact h0), hB⟩
  · refine Or.inr ⟨g, cap, by rw [List.length_append]; exact he, hg, (hown.lt g rfl).2, by rw [List.length_append]; exact hn, ?_, hB⟩
    refine holds_of_blockI hh ?_
    rw [List.length_append, ← Nat.mul_one (a.length + b.length), ht, ← ints_app]; rfl
theorem sortD_c (g cap : Nat) (zs : List Int) (n : Nat) (hn : n = zs.length) (w : World) (hH : Holds (Value.int .i64) w g 0 zs.toArray) (hg : g < w.heap.size) (hz : zs.length ≤ 2000000) (B : Nat) (hB : B ≤ g) :
    Calls Tryd.prog 80 #[.slice (some ⟨g, 0, none⟩) n cap] w fun e w' => e = .returned (.tuple #[]) ∧ Holds (Value.int .i64) w' g 0 (zs.mergeSort fun x y => decide (x ≤ y)).toArray ∧ g < w'.heap.size ∧ Below B w w' := by
  subst hn
  refine (Tryd.slices_Sort_int g 0 cap zs w hH hg (by omega)).mono fun e w' ⟨h1, n, os, h2⟩ => ⟨h1, ?_, ?_, ?_⟩
  · rw [h2]
    refine holds_grow _ _ _ _ _ _ (by simpa using hg) (holds_putRow _ (Sort.ahead w n) _ _ zs.toArray _ hH (by simp))
  · rw [h2]; simp; omega
  · rw [h2]
    exact (Below.refl B w).grown (grownBy_sortedI _) (by omega) (fun k hk => by cases hk; exact hB)
theorem compD_c (g cap : Nat) (zs : List Int) (n : Nat) (hn : n = zs.length) (w : World) (hH : Holds (Value.int .i64) w g 0 zs.toArray) (hg : g < w.heap.size) (hz : zs.length ≤ 2000000) (hcap : zs.length ≤ cap) (B : Nat) (hB : B ≤ g) :
    Calls Tryd.prog 81 #[.slice (some ⟨g, 0, none⟩) n cap] w fun e w' => e = .returned (.slice (some ⟨g, 0, none⟩) (Lib.compact zs).length cap) ∧ DIn w' (some ⟨g, 0, none⟩) (Lib.compact zs) ∧ Below B w w' := by
  subst hn
  have hle := Lib.compact_length_le zs
  refine (Tryd.slices_Compact_int g 0 cap zs w hH (by omega) hcap).mono fun e w' ⟨h1, q, h2⟩ => ⟨h1, ?_, ?_⟩
  · have hh := holds_putRow (Value.int .i64) (Sort.ahead w q) g 0 zs.toArray (Lib.compact zs ++ List.replicate (zs.length - (Lib.compact zs).length) 0).toArray hH (by simp; omega)
    rw [← h2] at hh
    refine Or.inr ⟨g, 0, rfl, by rw [h2]; simpa using hg, fun j hj => ?_⟩
    have := (hh j (by simp; omega)).1
    rw [this]
    congr 2
    simp [hj, List.getElem?_append_left hj]
  · have e : w' = grow (putRow (Value.int .i64) (Sort.ahead w q) g 0 (Lib.compact zs ++ List.replicate (zs.length - (Lib.compact zs).length) 0).toArray) #[] := by rw [h2]; simp
    rw [e]
    exact (Below.refl B w).grown (grownBy_sortedI _) (by omega) (fun k hk => by cases hk; exact hB)
set_option maxHeartbeats 2000000 in
theorem laid_c (bl : Nat) (A B : Option Addr) (ca cb : Nat) (a b : List Int) (w : World) (hbl : bl < w.heap.size) (l0 : w.cell? ⟨bl, 0, none⟩ = some (.slice A a.length ca)) (l1 : w.cell? ⟨bl, 1, none⟩ = some (.slice B b.length cb))
    (ha : DIn w A a) (hb : DIn w B b) (na : a.length ≤ 1000000) (nb : b.length ≤ 1000000) :
    Calls Tryd.prog 65 #[.slice (some ⟨bl, 0, none⟩) 2 2] w fun e w' => ∃ D c, e = .returned (.slice D (uds a b).length c) ∧ DIn w' D (uds a b) ∧ (∀ b o, D = some ⟨b, o, none⟩ → w.heap.size ≤ b) ∧ Below w.heap.size w w' := by
  have HC := Lib.hid (catS_c bl A B ca cb a b _ rfl w hbl l0 l1 ha hb na nb)
  have hlen : (a ++ b).length ≤ 2000000 := by rw [List.length_append]; omega
  have hlen2 : ((a ++ b).mergeSort fun x y => decide (x ≤ y)).length ≤ 2000000 := by rw [List.length_mergeSort]; exact hlen
  have hlz : Hid ((a ++ b).length = ((a ++ b).mergeSort fun x y => decide (x ≤ y)).length) := Lib.hid (List.length_mergeSort _).symm
  have hu : Hid (uds a b = Lib.compact ((a ++ b).mergeSort fun x y => decide (x ≤ y))) := Lib.hid rfl
  have hue : Hid (a ++ b = [] → uds a b = []) := Lib.hid (fun h => by unfold uds; rw [h, List.mergeSort_nil]; rfl)
  clear l0 l1 ha hb
  generalize hss : (a ++ b).mergeSort (fun x y => decide (x ≤ y)) = ss at *
  generalize a ++ b = zs at *
  have HS := Lib.hid hss; clear hss
  go_enter Tryd.func65, Tryd.ntmps65
  go_wp2_with fail
  refine HC.out.mono ?_; rintro e w1 (⟨rfl, hz, hb1⟩ | ⟨g, cap, rfl, hg, hg1, hcap, hH, hb1⟩)
  · have HZ := Lib.hid hz; clear hz
    go_wp2_with fail
    refine (Tryd.slices_Sort_int_none _ _ _).mono ?_; rintro e w2 ⟨rfl, hw⟩
    obtain rfl := hw
    go_wp2_with fail
    refine (Tryd.slices_Compact_int_empty _ _ _).mono ?_; rintro e w3 ⟨rfl, hw⟩
    obtain rfl := hw
    go_wp2_with fail
    go_ret
    exact ⟨none, 0, by rw [hue.out HZ.out]; rfl, by rw [hue.out HZ.out]; exact Or.inl rfl, (fun b o h => by cases h), hb1⟩
  · have h0 : w.heap.size ≤ w1.heap.size := hb1.size
    go_wp2_with fail
    refine (sortD_c g cap zs _ rfl _ hH hg1 hlen w.heap.size hg).mono ?_; rintro e w2 ⟨rfl, hH2, hg2, hb2⟩
    go_wp2_with fail
    refine (compD_c g cap ss _ hlz.out _ (by rw [← HS.out]; exact hH2) hg2 hlen2 (by rw [← hlz.out]; exact hcap) w.heap.size hg).mono ?_; rintro e w3 ⟨rfl, hD, hb3⟩
    go_wp2_with fail
    go_ret
    exact ⟨_, _, by rw [hu.out] <;> rfl, by rw [hu.out]; exact hD, (fun b o h => by cases h; exact hg), (hb1.trans hb2).trans hb3⟩
end Go.Proofs.YtlilffoflkkbdaaDoor
