/- The document's union of two calendars, and whether two calendars are the same. Conditions: rows of days rise; sizes far below the machine's. -/
import Derived.Test.YtlilffoflkkbdaaDoorCalO
import Derived.Test.YtlilffoflkkbdaaDoorWeekEq
namespace Go.Proofs.YtlilffoflkkbdaaDoor
open Go.RowKit
set_option linter.unusedVariables false
set_option linter.unusedSimpArgs false
theorem rise_ext : ∀ (l m : List Int), l.Pairwise (· < ·) → m.Pairwise (· < ·) → (∀ x, x ∈ l ↔ x ∈ m) → l = m
  | [], [], _, _, _ => rfl
  | [], b :: m, _, _, h => absurd ((h b).2 (by simp)) (by simp)
  | a :: l, [], _, _, h => absurd ((h a).1 (by simp)) (by simp)
  | a :: l, b :: m, h1, h2, h => by
    obtain ⟨p1, p2⟩ := List.pairwise_cons.1 h1
    obtain ⟨q1, q2⟩ := List.pairwise_cons.1 h2
    have hab : a = b := by
      have ha := (h a).1 (by simp)
      have hb := (h b).2 (by simp)
      rcases List.mem_cons.1 ha with e | ha
      · exact e
      · rcases List.mem_cons.1 hb with e | hb
        · exact e.symm
        · have := p1 b hb; have := q1 a ha; omega
    subst hab
    refine congrArg _ (rise_ext l m p2 q2 fun x => ⟨fun hx => ?_, fun hx => ?_⟩)
    · rcases List.mem_cons.1 ((h x).1 (List.mem_cons_of_mem _ hx)) with e | e
      · have := p1 x hx; omega
      · exact e
    · rcases List.mem_cons.1 ((h x).2 (List.mem_cons_of_mem _ hx)) with e | e
      · have := q1 x hx; omega
      · exact e
/-- So far: the first so many of both are laid, rising; what is laid lies ahead of all that is not. -/
structure MI (a b : List Int) (i j : Nat) (out : List Int) : Prop where
  hi : i ≤ a.length
  hj : j ≤ b.length
  srt : out.Pairwise (· < ·)
  mem : ∀ x, x ∈ out ↔ x ∈ a.take i ∨ x ∈ b.take j
  la : ∀ x ∈ out, ∀ k, i ≤ k → k < a.length → x < a.getD k 0
  lb : ∀ x ∈ out, ∀ k, j ≤ k → k < b.length → x < b.getD k 0
theorem MI.start (a b : List Int) : MI a b 0 0 [] := ⟨Nat.zero_le _, Nat.zero_le _, List.Pairwise.nil, by simp, by simp, by simp⟩
theorem take_mem {a : List Int} {i : Nat} (h : i < a.length) (x : Int) : x ∈ a.take (i + 1) ↔ x ∈ a.take i ∨ x = a.getD i 0 := by
  rw [List.take_add_one, List.getElem?_eq_getElem h, List.getD_eq_getElem?_getD, List.getElem?_eq_getElem h]
  simp only [Option.toList_some, List.mem_append, List.mem_singleton, Option.getD_some]
theorem rise_at {a : List Int} (h : a.Pairwise (· < ·)) {i k : Nat} (h1 : i < k) (h2 : k < a.length) : a.getD i 0 < a.getD k 0 := by
  rw [List.getD_eq_getElem?_getD, List.getD_eq_getElem?_getD, List.getElem?_eq_getElem h2, List.getElem?_eq_getElem (by omega : i < a.length)]
  exact List.pairwise_iff_getElem.1 h i k _ h2 h1
theorem srt_snoc {l : List Int} {x : Int} (h : l.Pairwise (· < ·)) (hx : ∀ y ∈ l, y < x) : (l ++ [x]).Pairwise (· < ·) :=
  List.pairwise_append.2 ⟨h, by simp, fun y hy z hz => by rw [List.mem_singleton.1 hz]; exact hx y hy⟩
theorem MI.left {a b out : List Int} {i j : Nat} (ha : a.Pairwise (· < ·)) (hb : b.Pairwise (· < ·)) (h : MI a b i j out) (hi : i < a.length) (hlt : j < b.length → a.getD i 0 < b.getD j 0) : MI a b (i + 1) j (out ++ [a.getD i 0]) := by
  refine ⟨hi, h.hj, srt_snoc h.srt fun y hy => h.la y hy i (Nat.le_refl _) hi, fun x => ?_, fun x hx k h1 h2 => ?_, fun x hx k h1 h2 => ?_⟩
  · rw [List.mem_append, List.mem_singleton, h.mem, take_mem hi]
    constructor
    · rintro ((h | h) | h)
      · exact Or.inl (Or.inl h)
      · exact Or.inr h
      · exact Or.inl (Or.inr h)
    · rintro ((h | h) | h)
      · exact Or.inl (Or.inl h)
      · exact Or.inr h
      · exact Or.inl (Or.inr h)
  · rcases List.mem_append.1 hx with hx | hx
    · exact h.la x hx k (by omega) h2
    · rw [List.mem_singleton.1 hx]; exact rise_at ha (by omega) h2
  · rcases List.mem_append.1 hx with hx | hx
    · exact h.lb x hx k h1 h2
    · rw [List.mem_singleton.1 hx]
      have h3 := hlt (by omega)
      by_cases e : j = k
      · rw [← e]; exact h3
      · have := rise_at hb (show j < k by omega) h2; omega
theorem MI.right {a b out : List Int} {i j : Nat} (ha : a.Pairwise (· < ·)) (hb : b.Pairwise (· < ·)) (h : MI a b i j out) (hj : j < b.length) (hlt : i < a.length → b.getD j 0 < a.getD i 0) : MI a b i (j + 1) (out ++ [b.getD j 0]) := by
  have hs : MI b a j i out := ⟨h.hj, h.hi, h.srt, fun x => (h.mem x).trans Or.comm, h.lb, h.la⟩
  have := hs.left hb ha hj hlt
  exact ⟨this.hj, this.hi, this.srt, fun x => (this.mem x).trans Or.comm, this.lb, this.la⟩
theorem MI.both {a b out : List Int} {i j : Nat} (ha : a.Pairwise (· < ·)) (hb : b.Pairwise (· < ·)) (h : MI a b i j out) (hi : i < a.length) (hj : j < b.length) (he : a.getD i 0 = b.getD j 0) : MI a b (i + 1) (j + 1) (out ++ [b.getD j 0]) := by
  refine ⟨hi, hj, srt_snoc h.srt fun y hy => h.lb y hy j (Nat.le_refl _) hj, fun x => ?_, fun x hx k h1 h2 => ?_, fun x hx k h1 h2 => ?_⟩
  · rw [List.mem_append, List.mem_singleton, h.mem, take_mem hi, take_mem hj, he]
    constructor
    · rintro ((h | h) | h)
      · exact Or.inl (Or.inl h)
      · exact Or.inr (Or.inl h)
      · exact Or.inl (Or.inr h)
    · rintro ((h | h) | (h | h))
      · exact Or.inl (Or.inl h)
      · exact Or.inr h
      · exact Or.inl (Or.inr h)
      · exact Or.inr h
  · rcases List.mem_append.1 hx with hx | hx
    · exact h.la x hx k (by omega) h2
    · rw [List.mem_singleton.1 hx, ← he]; exact rise_at ha (by omega) h2
  · rcases List.mem_append.1 hx with hx | hx
    · exact h.lb x hx k (by omega) h2
    · rw [List.mem_singleton.1 hx]; exact rise_at hb (by omega) h2
theorem MI.done {a b out : List Int} {i j : Nat} (h : MI a b i j out) (hi : i = a.length) (hj : j = b.length) : out = uds a b := by
  have hl := uds_law a b
  refine rise_ext _ _ h.srt hl.1 fun x => ?_
  rw [h.mem, hl.2, hi, hj, List.take_length, List.take_length]
theorem src_one (w : World) (x : Int) (T : TypeId) : SrcIn (w.alloc (.cells #[.int .i64 x] T)) 1 (some ⟨w.heap.size, 0, none⟩) 1 [.int .i64 x] :=
  ⟨rfl, Or.inr ⟨w.heap.size, 0, rfl, by simp, fun j u hu => by
    match j, hu with
    | 0, hu => simp at hu; subst hu; simp⟩⟩
theorem int_one (x : Int) : ∀ u ∈ ([.int .i64 x] : List Value), u.oneCell' = true := by
  intro u hu
  rw [List.mem_singleton.1 hu]; rfl
theorem ints_snoc (l : List Int) (x : Int) : ints l ++ [.int .i64 x] = ints (l ++ [x]) := by rw [ints_app]; rfl
theorem beqFU {a b : Int} (h : a ≠ b) : (a == b) = false := beq_eq_false_iff_ne.2 h
theorem beqTU {a b : Int} (h : a = b) : (a == b) = true := beq_iff_eq.2 h
def DaysRet (a b : List Int) (w : World) (e : Ending) (w' : World) : Prop := ∃ (D : Option Addr) (c : Nat), e = .returned (.slice D (uds a b).length c) ∧ DBt w' w.heap.size w'.heap.size D (uds a b) ∧ Below w.heap.size w w'
set_option maxRecDepth 100000 in
set_option maxHeartbeats 8000000 in
theorem days_00 (ba oa bb ob : Nat) (ca cb : Nat) (w : World) (a : List Int) (sa : Hid (a.Pairwise (· < ·))) (la : a.length ≤ 1000000) (hba : ba < w.heap.size) (hca : ∀ j, j < a.length → w.cell? ⟨ba, oa + j, none⟩ = some (.int .i64 (a.getD j 0))) (b : List Int) (sb : Hid (b.Pairwise (· < ·))) (lb : b.length ≤ 1000000) (hbb : bb < w.heap.size) (hcb : ∀ j, j < b.length → w.cell? ⟨bb, ob + j, none⟩ = some (.int .i64 (b.getD j 0)))  : Calls Tryd.prog 66 #[.slice (some ⟨ba, oa, none⟩) a.length ca, .slice (some ⟨bb, ob, none⟩) b.length cb] w (DaysRet a b w) := by
  obtain ⟨i0, hi0, hz0, hs0, hb0⟩ := info_parts infoD
  have HCA := Lib.hid hca; clear hca
  have HCB := Lib.hid hcb; clear hcb
  go_enter Tryd.func66, Tryd.ntmps66
  go_wp2_with fail
  go_loopw [5, 6, 7] (fun v p q wr => ∃ (i j : Nat) (out : List Int), p = .int .i64 i ∧ q = .int .i64 j ∧ i ≤ a.length ∧ j ≤ b.length ∧ Hid (MI a b i j out) ∧ out.length ≤ i + j ∧ Hid (wr.ownsRow w.heap.size 3 1 v out.length (ints out)) ∧ Hid (Below w.heap.size w wr)) (fun _ p q _ => (a.length - (intOf p).toNat) + (b.length - (intOf q).toNat))
  case atStart => exact ⟨0, 0, [], rfl, rfl, Nat.zero_le _, Nat.zero_le _, Lib.hid (MI.start _ _), Nat.le_refl _, Lib.hid (World.ownsRow_nil _ _ _ _), Lib.hid (Below.refl _ _)⟩
  case round =>
    obtain ⟨i, j, out, rfl, rfl, hi, hj, hM, hol, hown, hBr⟩ := hrel
    have hzr := hBr.out.size
    by_cases hil : i < a.length
    · by_cases hjl : j < b.length
      · by_cases hab : a.getD i 0 < b.getD j 0
        · have di : decide ((i : Int) < (a.length : Int)) = true := decide_eq_true (by omega)
          have diz :  (i : Int) < (a.length : Int) := by omega
          have dj : decide ((j : Int) < (b.length : Int)) = true := decide_eq_true (by omega)
          have djz :  (j : Int) < (b.length : Int) := by omega
          have ej : ((j : Int) == (b.length : Int)) = false := beqFU (by omega)
          have ga := below_some hBr.out _ _ _ (HCA.out i (by omega))
          have wi : IntKind.i64.wrap ((i : Int) + 1) = (i : Int) + 1 := IntWalk.i64_in _ (by omega)
          have gb := below_some hBr.out _ _ _ (HCB.out j (by omega))
          have wj : IntKind.i64.wrap ((j : Int) + 1) = (j : Int) + 1 := IntWalk.i64_in _ (by omega)
          have nM := Lib.hid (hM.out.left sa.out sb.out (by omega) (fun h => by omega))
          generalize a.getD i 0 = x at *
          generalize b.getD j 0 = y at *
          have dl : decide (x < y) = true := decide_eq_true hab
          go_wp2_with fail
          go_quiet (fail)
          go_wp2_with (at_builtin; refine wpList_app_in rfl (.tmp 39) (.tmp 44) _ rfl w.heap.size 3 i0 _ 1 8 Tryd.underlying24 hi0 hz0 hs0 hb0 (by rfl) (by decide) _ out.length (ints out) rfl (own_of (hown.out.alloc (.cells #[.int .i64 x] 3)) (fun k B h => h)) (some ⟨wr.heap.size, 0, none⟩) 1 1 [.int .i64 x] rfl ((src_one wr _ _).below (below_drewN' (Below.refl _ _) _)) (int_one _) (by unfold maxLen; omega) (by omega) (by simp; omega) ?_; intro v1 w1 hown1 hg1; have hB1 : Hid (Below w.heap.size w w1) := Lib.hid (Below.grown (below_drewN' (below_al hBr.out) _) hg1 (by simp; omega) (fun k hk => (hown.out.lt k hk).1)); have hown2 : Hid (w1.ownsRow w.heap.size 3 1 v1 (out ++ [x]).length (ints (out ++ [x]))) := Lib.hid (by rw [List.length_append, ← ints_snoc]; exact hown1))
          go_roundw
          case rel => exact ⟨i + 1, j, out ++ [x], by go_num, rfl, by omega, by omega, nM, by rw [List.length_append]; simp; omega, hown2, hB1⟩
          case measure => simp [intOf]; omega
        · by_cases hab2 : a.getD i 0 = b.getD j 0
          · have di : decide ((i : Int) < (a.length : Int)) = true := decide_eq_true (by omega)
            have diz :  (i : Int) < (a.length : Int) := by omega
            have dj : decide ((j : Int) < (b.length : Int)) = true := decide_eq_true (by omega)
            have djz :  (j : Int) < (b.length : Int) := by omega
            have ej : ((j : Int) == (b.length : Int)) = false := beqFU (by omega)
            have ga := below_some hBr.out _ _ _ (HCA.out i (by omega))
            have wi : IntKind.i64.wrap ((i : Int) + 1) = (i : Int) + 1 := IntWalk.i64_in _ (by omega)
            have gb := below_some hBr.out _ _ _ (HCB.out j (by omega))
            have wj : IntKind.i64.wrap ((j : Int) + 1) = (j : Int) + 1 := IntWalk.i64_in _ (by omega)
            have nM := Lib.hid (hM.out.both sa.out sb.out (by omega) (by omega) hab2)
            generalize a.getD i 0 = x at *
            generalize b.getD j 0 = y at *
            have dl : decide (x < y) = false := decide_eq_false (by omega)
            have dq : (x == y) = true := beqTU hab2
            clear hab2
            go_wp2_with fail
            go_quiet (fail)
            go_wp2_with fail
            go_quiet (fail)
            go_wp2_with (at_builtin; refine wpList_app_in rfl (.tmp 65) (.tmp 70) _ rfl w.heap.size 3 i0 _ 1 8 Tryd.underlying24 hi0 hz0 hs0 hb0 (by rfl) (by decide) _ out.length (ints out) rfl (own_of (hown.out.alloc (.cells #[.int .i64 y] 3)) (fun k B h => h)) (some ⟨wr.heap.size, 0, none⟩) 1 1 [.int .i64 y] rfl ((src_one wr _ _).below (below_drewN' (Below.refl _ _) _)) (int_one _) (by unfold maxLen; omega) (by omega) (by simp; omega) ?_; intro v1 w1 hown1 hg1; have hB1 : Hid (Below w.heap.size w w1) := Lib.hid (Below.grown (below_drewN' (below_al hBr.out) _) hg1 (by simp; omega) (fun k hk => (hown.out.lt k hk).1)); have hown2 : Hid (w1.ownsRow w.heap.size 3 1 v1 (out ++ [y]).length (ints (out ++ [y]))) := Lib.hid (by rw [List.length_append, ← ints_snoc]; exact hown1))
            go_roundw
            case rel => exact ⟨i + 1, j + 1, out ++ [y], by go_num, by go_num, by omega, by omega, nM, by rw [List.length_append]; simp; omega, hown2, hB1⟩
            case measure => simp [intOf]; omega
          · have di : decide ((i : Int) < (a.length : Int)) = true := decide_eq_true (by omega)
            have diz :  (i : Int) < (a.length : Int) := by omega
            have dj : decide ((j : Int) < (b.length : Int)) = true := decide_eq_true (by omega)
            have djz :  (j : Int) < (b.length : Int) := by omega
            have ej : ((j : Int) == (b.length : Int)) = false := beqFU (by omega)
            have ga := below_some hBr.out _ _ _ (HCA.out i (by omega))
            have wi : IntKind.i64.wrap ((i : Int) + 1) = (i : Int) + 1 := IntWalk.i64_in _ (by omega)
            have gb := below_some hBr.out _ _ _ (HCB.out j (by omega))
            have wj : IntKind.i64.wrap ((j : Int) + 1) = (j : Int) + 1 := IntWalk.i64_in _ (by omega)
            have nM := Lib.hid (hM.out.right sa.out sb.out (by omega) (fun h => by omega))
            generalize a.getD i 0 = x at *
            generalize b.getD j 0 = y at *
            have dl : decide (x < y) = false := decide_eq_false (by omega)
            have dq : (x == y) = false := beqFU (by omega)
            go_wp2_with fail
            go_quiet (fail)
            go_wp2_with fail
            go_quiet (fail)
            go_wp2_with (at_builtin; refine wpList_app_in rfl (.tmp 65) (.tmp 70) _ rfl w.heap.size 3 i0 _ 1 8 Tryd.underlying24 hi0 hz0 hs0 hb0 (by rfl) (by decide) _ out.length (ints out) rfl (own_of (hown.out.alloc (.cells #[.int .i64 y] 3)) (fun k B h => h)) (some ⟨wr.heap.size, 0, none⟩) 1 1 [.int .i64 y] rfl ((src_one wr _ _).below (below_drewN' (Below.refl _ _) _)) (int_one _) (by unfold maxLen; omega) (by omega) (by simp; omega) ?_; intro v1 w1 hown1 hg1; have hB1 : Hid (Below w.heap.size w w1) := Lib.hid (Below.grown (below_drewN' (below_al hBr.out) _) hg1 (by simp; omega) (fun k hk => (hown.out.lt k hk).1)); have hown2 : Hid (w1.ownsRow w.heap.size 3 1 v1 (out ++ [y]).length (ints (out ++ [y]))) := Lib.hid (by rw [List.length_append, ← ints_snoc]; exact hown1))
            go_roundw
            case rel => exact ⟨i, j + 1, out ++ [y], rfl, by go_num, by omega, by omega, nM, by rw [List.length_append]; simp; omega, hown2, hB1⟩
            case measure => simp [intOf]; omega
      · have di : decide ((i : Int) < (a.length : Int)) = true := decide_eq_true (by omega)
        have diz :  (i : Int) < (a.length : Int) := by omega
        have dj : decide ((j : Int) < (b.length : Int)) = false := decide_eq_false (by omega)
        have djz : ¬ (j : Int) < (b.length : Int) := by omega
        have ej : ((j : Int) == (b.length : Int)) = true := beqTU (by omega)
        have ga := below_some hBr.out _ _ _ (HCA.out i (by omega))
        have wi : IntKind.i64.wrap ((i : Int) + 1) = (i : Int) + 1 := IntWalk.i64_in _ (by omega)
        have nM := Lib.hid (hM.out.left sa.out sb.out (by omega) (fun h => by first | omega | (simp at h)))
        generalize a.getD i 0 = x at *
        go_wp2_with fail
        go_quiet (fail)
        go_wp2_with (at_builtin; refine wpList_app_in rfl (.tmp 39) (.tmp 44) _ rfl w.heap.size 3 i0 _ 1 8 Tryd.underlying24 hi0 hz0 hs0 hb0 (by rfl) (by decide) _ out.length (ints out) rfl (own_of (hown.out.alloc (.cells #[.int .i64 x] 3)) (fun k B h => h)) (some ⟨wr.heap.size, 0, none⟩) 1 1 [.int .i64 x] rfl ((src_one wr _ _).below (below_drewN' (Below.refl _ _) _)) (int_one _) (by unfold maxLen; omega) (by omega) (by simp; omega) ?_; intro v1 w1 hown1 hg1; have hB1 : Hid (Below w.heap.size w w1) := Lib.hid (Below.grown (below_drewN' (below_al hBr.out) _) hg1 (by simp; omega) (fun k hk => (hown.out.lt k hk).1)); have hown2 : Hid (w1.ownsRow w.heap.size 3 1 v1 (out ++ [x]).length (ints (out ++ [x]))) := Lib.hid (by rw [List.length_append, ← ints_snoc]; exact hown1))
        go_roundw
        case rel => exact ⟨i + 1, j, out ++ [x], by go_num, rfl, by omega, by omega, nM, by rw [List.length_append]; simp; omega, hown2, hB1⟩
        case measure => simp [intOf]; omega
    · by_cases hjl : j < b.length
      · have di : decide ((i : Int) < (a.length : Int)) = false := decide_eq_false (by omega)
        have diz : ¬ (i : Int) < (a.length : Int) := by omega
        have dj : decide ((j : Int) < (b.length : Int)) = true := decide_eq_true (by omega)
        have djz :  (j : Int) < (b.length : Int) := by omega
        have ej : ((j : Int) == (b.length : Int)) = false := beqFU (by omega)
        have gb := below_some hBr.out _ _ _ (HCB.out j (by omega))
        have wj : IntKind.i64.wrap ((j : Int) + 1) = (j : Int) + 1 := IntWalk.i64_in _ (by omega)
        have nM := Lib.hid (hM.out.right sa.out sb.out (by omega) (fun h => by first | omega | (simp at h)))
        generalize b.getD j 0 = y at *
        go_wp2_with fail
        go_quiet (fail)
        go_wp2_with fail
        go_quiet (fail)
        go_wp2_with (at_builtin; refine wpList_app_in rfl (.tmp 65) (.tmp 70) _ rfl w.heap.size 3 i0 _ 1 8 Tryd.underlying24 hi0 hz0 hs0 hb0 (by rfl) (by decide) _ out.length (ints out) rfl (own_of (hown.out.alloc (.cells #[.int .i64 y] 3)) (fun k B h => h)) (some ⟨wr.heap.size, 0, none⟩) 1 1 [.int .i64 y] rfl ((src_one wr _ _).below (below_drewN' (Below.refl _ _) _)) (int_one _) (by unfold maxLen; omega) (by omega) (by simp; omega) ?_; intro v1 w1 hown1 hg1; have hB1 : Hid (Below w.heap.size w w1) := Lib.hid (Below.grown (below_drewN' (below_al hBr.out) _) hg1 (by simp; omega) (fun k hk => (hown.out.lt k hk).1)); have hown2 : Hid (w1.ownsRow w.heap.size 3 1 v1 (out ++ [y]).length (ints (out ++ [y]))) := Lib.hid (by rw [List.length_append, ← ints_snoc]; exact hown1))
        go_roundw
        case rel => exact ⟨i, j + 1, out ++ [y], rfl, by go_num, by omega, by omega, nM, by rw [List.length_append]; simp; omega, hown2, hB1⟩
        case measure => simp [intOf]; omega
      · have di : decide ((i : Int) < (a.length : Int)) = false := decide_eq_false (by omega)
        have diz : ¬ (i : Int) < (a.length : Int) := by omega
        have dj : decide ((j : Int) < (b.length : Int)) = false := decide_eq_false (by omega)
        have djz : ¬ (j : Int) < (b.length : Int) := by omega
        have ej : ((j : Int) == (b.length : Int)) = true := beqTU (by omega)
        have hO : out = uds a b := hM.out.done (by first | omega | (simp; done) | (simp; omega)) (by first | omega | (simp; done) | (simp; omega))
        subst hO
        obtain ⟨D, c, rfl, hD⟩ := owns_days hown.out
        have HD := Lib.hid (hD.bt (owns_base hown.out)); clear hD
        go_wp2_with fail
        go_ret
        exact ⟨D, c, rfl, HD.out, hBr.out⟩
set_option maxRecDepth 100000 in
set_option maxHeartbeats 8000000 in
theorem days_01 (ba oa : Nat) (B : Option Addr) (ca cb : Nat) (w : World) (a : List Int) (sa : Hid (a.Pairwise (· < ·))) (la : a.length ≤ 1000000) (hba : ba < w.heap.size) (hca : ∀ j, j < a.length → w.cell? ⟨ba, oa + j, none⟩ = some (.int .i64 (a.getD j 0)))  : Calls Tryd.prog 66 #[.slice (some ⟨ba, oa, none⟩) a.length ca, .slice B 0 cb] w (DaysRet a [] w) := by
  obtain ⟨i0, hi0, hz0, hs0, hb0⟩ := info_parts infoD
  have HCA := Lib.hid hca; clear hca
  go_enter Tryd.func66, Tryd.ntmps66
  go_wp2_with fail
  go_loopw [5, 6, 7] (fun v p q wr => ∃ (i j : Nat) (out : List Int), p = .int .i64 i ∧ q = .int .i64 j ∧ i ≤ a.length ∧ j ≤ 0 ∧ Hid (MI a [] i j out) ∧ out.length ≤ i + j ∧ Hid (wr.ownsRow w.heap.size 3 1 v out.length (ints out)) ∧ Hid (Below w.heap.size w wr)) (fun _ p q _ => (a.length - (intOf p).toNat) + (0 - (intOf q).toNat))
  case atStart => exact ⟨0, 0, [], rfl, rfl, Nat.zero_le _, Nat.zero_le _, Lib.hid (MI.start _ _), Nat.le_refl _, Lib.hid (World.ownsRow_nil _ _ _ _), Lib.hid (Below.refl _ _)⟩
  case round =>
    obtain ⟨i, j, out, rfl, rfl, hi, hj, hM, hol, hown, hBr⟩ := hrel
    have hzr := hBr.out.size
    by_cases hil : i < a.length
    · have di : decide ((i : Int) < (a.length : Int)) = true := decide_eq_true (by omega)
      have diz :  (i : Int) < (a.length : Int) := by omega
      obtain rfl : j = 0 := by omega
      have ga := below_some hBr.out _ _ _ (HCA.out i (by omega))
      have wi : IntKind.i64.wrap ((i : Int) + 1) = (i : Int) + 1 := IntWalk.i64_in _ (by omega)
      have nM := Lib.hid (hM.out.left sa.out List.Pairwise.nil (by omega) (fun h => by first | omega | (simp at h)))
      generalize a.getD i 0 = x at *
      go_wp2_with fail
      go_quiet (fail)
      go_wp2_with (at_builtin; refine wpList_app_in rfl (.tmp 39) (.tmp 44) _ rfl w.heap.size 3 i0 _ 1 8 Tryd.underlying24 hi0 hz0 hs0 hb0 (by rfl) (by decide) _ out.length (ints out) rfl (own_of (hown.out.alloc (.cells #[.int .i64 x] 3)) (fun k B h => h)) (some ⟨wr.heap.size, 0, none⟩) 1 1 [.int .i64 x] rfl ((src_one wr _ _).below (below_drewN' (Below.refl _ _) _)) (int_one _) (by unfold maxLen; omega) (by omega) (by simp; omega) ?_; intro v1 w1 hown1 hg1; have hB1 : Hid (Below w.heap.size w w1) := Lib.hid (Below.grown (below_drewN' (below_al hBr.out) _) hg1 (by simp; omega) (fun k hk => (hown.out.lt k hk).1)); have hown2 : Hid (w1.ownsRow w.heap.size 3 1 v1 (out ++ [x]).length (ints (out ++ [x]))) := Lib.hid (by rw [List.length_append, ← ints_snoc]; exact hown1))
      go_roundw
      case rel => exact ⟨i + 1, 0, out ++ [x], by go_num, rfl, by omega, by omega, nM, by rw [List.length_append]; simp; omega, hown2, hB1⟩
      case measure => simp [intOf]; omega
    · have di : decide ((i : Int) < (a.length : Int)) = false := decide_eq_false (by omega)
      have diz : ¬ (i : Int) < (a.length : Int) := by omega
      obtain rfl : j = 0 := by omega
      have hO : out = uds a [] := hM.out.done (by first | omega | (simp; done) | (simp; omega)) (by first | omega | (simp; done) | (simp; omega))
      subst hO
      obtain ⟨D, c, rfl, hD⟩ := owns_days hown.out
      have HD := Lib.hid (hD.bt (owns_base hown.out)); clear hD
      go_wp2_with fail
      go_ret
      exact ⟨D, c, rfl, HD.out, hBr.out⟩
set_option maxRecDepth 100000 in
set_option maxHeartbeats 8000000 in
theorem days_10 (A : Option Addr) (bb ob : Nat) (ca cb : Nat) (w : World) (b : List Int) (sb : Hid (b.Pairwise (· < ·))) (lb : b.length ≤ 1000000) (hbb : bb < w.heap.size) (hcb : ∀ j, j < b.length → w.cell? ⟨bb, ob + j, none⟩ = some (.int .i64 (b.getD j 0)))  : Calls Tryd.prog 66 #[.slice A 0 ca, .slice (some ⟨bb, ob, none⟩) b.length cb] w (DaysRet [] b w) := by
  obtain ⟨i0, hi0, hz0, hs0, hb0⟩ := info_parts infoD
  have HCB := Lib.hid hcb; clear hcb
  go_enter Tryd.func66, Tryd.ntmps66
  go_wp2_with fail
  go_loopw [5, 6, 7] (fun v p q wr => ∃ (i j : Nat) (out : List Int), p = .int .i64 i ∧ q = .int .i64 j ∧ i ≤ 0 ∧ j ≤ b.length ∧ Hid (MI [] b i j out) ∧ out.length ≤ i + j ∧ Hid (wr.ownsRow w.heap.size 3 1 v out.length (ints out)) ∧ Hid (Below w.heap.size w wr)) (fun _ p q _ => (0 - (intOf p).toNat) + (b.length - (intOf q).toNat))
  case atStart => exact ⟨0, 0, [], rfl, rfl, Nat.zero_le _, Nat.zero_le _, Lib.hid (MI.start _ _), Nat.le_refl _, Lib.hid (World.ownsRow_nil _ _ _ _), Lib.hid (Below.refl _ _)⟩
  case round =>
    obtain ⟨i, j, out, rfl, rfl, hi, hj, hM, hol, hown, hBr⟩ := hrel
    have hzr := hBr.out.size
    by_cases hjl : j < b.length
    · have dj : decide ((j : Int) < (b.length : Int)) = true := decide_eq_true (by omega)
      have djz :  (j : Int) < (b.length : Int) := by omega
      have ej : ((j : Int) == (b.length : Int)) = false := beqFU (by omega)
      obtain rfl : i = 0 := by omega
      have gb := below_some hBr.out _ _ _ (HCB.out j (by omega))
      have wj : IntKind.i64.wrap ((j : Int) + 1) = (j : Int) + 1 := IntWalk.i64_in _ (by omega)
      have nM := Lib.hid (hM.out.right List.Pairwise.nil sb.out (by omega) (fun h => by first | omega | (simp at h)))
      generalize b.getD j 0 = y at *
      go_wp2_with fail
      go_quiet (fail)
      go_wp2_with fail
      go_quiet (fail)
      go_wp2_with (at_builtin; refine wpList_app_in rfl (.tmp 65) (.tmp 70) _ rfl w.heap.size 3 i0 _ 1 8 Tryd.underlying24 hi0 hz0 hs0 hb0 (by rfl) (by decide) _ out.length (ints out) rfl (own_of (hown.out.alloc (.cells #[.int .i64 y] 3)) (fun k B h => h)) (some ⟨wr.heap.size, 0, none⟩) 1 1 [.int .i64 y] rfl ((src_one wr _ _).below (below_drewN' (Below.refl _ _) _)) (int_one _) (by unfold maxLen; omega) (by omega) (by simp; omega) ?_; intro v1 w1 hown1 hg1; have hB1 : Hid (Below w.heap.size w w1) := Lib.hid (Below.grown (below_drewN' (below_al hBr.out) _) hg1 (by simp; omega) (fun k hk => (hown.out.lt k hk).1)); have hown2 : Hid (w1.ownsRow w.heap.size 3 1 v1 (out ++ [y]).length (ints (out ++ [y]))) := Lib.hid (by rw [List.length_append, ← ints_snoc]; exact hown1))
      go_roundw
      case rel => exact ⟨0, j + 1, out ++ [y], rfl, by go_num, by omega, by omega, nM, by rw [List.length_append]; simp; omega, hown2, hB1⟩
      case measure => simp [intOf]; omega
    · have dj : decide ((j : Int) < (b.length : Int)) = false := decide_eq_false (by omega)
      have djz : ¬ (j : Int) < (b.length : Int) := by omega
      have ej : ((j : Int) == (b.length : Int)) = true := beqTU (by omega)
      obtain rfl : i = 0 := by omega
      have hO : out = uds [] b := hM.out.done (by first | omega | (simp; done) | (simp; omega)) (by first | omega | (simp; done) | (simp; omega))
      subst hO
      obtain ⟨D, c, rfl, hD⟩ := owns_days hown.out
      have HD := Lib.hid (hD.bt (owns_base hown.out)); clear hD
      go_wp2_with fail
      go_ret
      exact ⟨D, c, rfl, HD.out, hBr.out⟩
set_option maxRecDepth 100000 in
set_option maxHeartbeats 8000000 in
theorem days_11 (A B : Option Addr) (ca cb : Nat) (w : World)  : Calls Tryd.prog 66 #[.slice A 0 ca, .slice B 0 cb] w (DaysRet [] [] w) := by
  obtain ⟨i0, hi0, hz0, hs0, hb0⟩ := info_parts infoD
  go_enter Tryd.func66, Tryd.ntmps66
  go_wp2_with fail
  go_loopw [5, 6, 7] (fun v p q wr => ∃ (i j : Nat) (out : List Int), p = .int .i64 i ∧ q = .int .i64 j ∧ i ≤ 0 ∧ j ≤ 0 ∧ Hid (MI [] [] i j out) ∧ out.length ≤ i + j ∧ Hid (wr.ownsRow w.heap.size 3 1 v out.length (ints out)) ∧ Hid (Below w.heap.size w wr)) (fun _ p q _ => (0 - (intOf p).toNat) + (0 - (intOf q).toNat))
  case atStart => exact ⟨0, 0, [], rfl, rfl, Nat.zero_le _, Nat.zero_le _, Lib.hid (MI.start _ _), Nat.le_refl _, Lib.hid (World.ownsRow_nil _ _ _ _), Lib.hid (Below.refl _ _)⟩
  case round =>
    obtain ⟨i, j, out, rfl, rfl, hi, hj, hM, hol, hown, hBr⟩ := hrel
    have hzr := hBr.out.size
    · obtain rfl : j = 0 := by omega
      obtain rfl : i = 0 := by omega
      have hO : out = uds [] [] := hM.out.done (by first | omega | (simp; done) | (simp; omega)) (by first | omega | (simp; done) | (simp; omega))
      subst hO
      obtain ⟨D, c, rfl, hD⟩ := owns_days hown.out
      have HD := Lib.hid (hD.bt (owns_base hown.out)); clear hD
      go_wp2_with fail
      go_ret
      exact ⟨D, c, rfl, HD.out, hBr.out⟩
theorem days_c (A B : Option Addr) (ca cb : Nat) (a b : List Int) (sa : a.Pairwise (· < ·)) (sb : b.Pairwise (· < ·)) (la : a.length ≤ 1000000) (lb : b.length ≤ 1000000) (w : World) (ha : DIn w A a) (hb : DIn w B b) : Calls Tryd.prog 66 #[.slice A a.length ca, .slice B b.length cb] w (DaysRet a b w) := by
  rcases ha with h | ⟨ba, oa, rfl, hba, hca⟩
  · subst h
    rcases hb with h | ⟨bb, ob, rfl, hbb, hcb⟩
    · subst h; exact days_11 A B ca cb w
    · exact days_10 A bb ob ca cb w b (Lib.hid sb) lb hbb hcb
  · rcases hb with h | ⟨bb, ob, rfl, hbb, hcb⟩
    · subst h; exact days_01 ba oa B ca cb w a (Lib.hid sa) la hba hca
    · exact days_00 ba oa bb ob ca cb w a (Lib.hid sa) la hba hca b (Lib.hid sb) lb hbb hcb
/-! Are two calendars the same? -/
set_option maxRecDepth 100000 in
set_option maxHeartbeats 8000000 in
theorem same_00 (o0 o1 o2 o3 o4 o5 o6 : Bool) (rb ro rb' ro' : Nat) (cR cR' : Nat) (db do_ db' do' : Nat) (cD cD' : Nat) (w : World) (rs : List R8) (lr : rs.length ≤ 1000000) (hrb : rb < w.heap.size) (hrb' : rb' < w.heap.size) (hr : ∀ j, j < rs.length → ∀ q u, (rs[j]!.enc)[q]? = some u → w.cell? ⟨rb, ro + j * 8 + q, none⟩ = some u) (hr' : ∀ j, j < rs.length → ∀ q u, (rs[j]!.enc)[q]? = some u → w.cell? ⟨rb', ro' + j * 8 + q, none⟩ = some u) (ds : List Int) (ld : ds.length ≤ 1000000) (hdb : db < w.heap.size) (hdb' : db' < w.heap.size) (hd : ∀ j, j < ds.length → w.cell? ⟨db, do_ + j, none⟩ = some (.int .i64 (ds.getD j 0))) (hd' : ∀ j, j < ds.length → w.cell? ⟨db', do' + j, none⟩ = some (.int .i64 (ds.getD j 0)))  : Calls Tryd.prog 41 #[.agg #[.bool o0, .bool o1, .bool o2, .bool o3, .bool o4, .bool o5, .bool o6, .slice (some ⟨rb, ro, none⟩) rs.length cR, .slice (some ⟨db, do_, none⟩) ds.length cD], .agg #[.bool o0, .bool o1, .bool o2, .bool o3, .bool o4, .bool o5, .bool o6, .slice (some ⟨rb', ro', none⟩) rs.length cR', .slice (some ⟨db', do', none⟩) ds.length cD']] w fun e w' => e = .returned (.bool true) ∧ Below w.heap.size w w' := by
  have hB : Below w.heap.size w w := Below.refl _ _
  have hwk : ∀ W : World, (Op.equalIn 10000 22 (.agg #[.bool o0, .bool o1, .bool o2, .bool o3, .bool o4, .bool o5, .bool o6]) (.agg #[.bool o0, .bool o1, .bool o2, .bool o3, .bool o4, .bool o5, .bool o6])).run Tryd.prog W = .ok true W := fun W => by rw [eq_week Tryd.underlying22]; simp
  have HR := Lib.hid hr; have HR' := Lib.hid hr'; clear hr hr'
  have HD := Lib.hid hd; have HD' := Lib.hid hd'; clear hd hd'
  go_enter Tryd.func41, Tryd.ntmps41
  go_upto_region 3 with fail
  generalize hW : ((w.alloc _).alloc _) = w2
  have hB2 : Below w.heap.size w w2 := by rw [← hW]; exact below_al (below_al (Below.refl _ _))
  have c7 : w2.cell? ⟨w.heap.size, 7, none⟩ = some (.slice (some ⟨rb, ro, none⟩) rs.length cR) := by rw [← hW]; exact cell_al (cell_nu rfl rfl)
  have c8 : w2.cell? ⟨w.heap.size, 8, none⟩ = some (.slice (some ⟨db, do_, none⟩) ds.length cD) := by rw [← hW]; exact cell_al (cell_nu rfl rfl)
  have b7 : w2.cell? ⟨w.heap.size + 1, 7, none⟩ = some (.slice (some ⟨rb', ro', none⟩) rs.length cR') := by rw [← hW]; exact cell_nu (by simp) rfl
  have b8 : w2.cell? ⟨w.heap.size + 1, 8, none⟩ = some (.slice (some ⟨db', do', none⟩) ds.length cD') := by rw [← hW]; exact cell_nu (by simp) rfl
  clear hW
  go_wp2_with fail
  go_loopw [5] (fun p wr => ∃ k : Nat, k ≤ rs.length ∧ p = .int .i64 k ∧ ∃ q : Nat, wr = w2.drewN q) (fun p _ => rs.length - (intOf p).toNat)
  case atStart => exact ⟨0, Nat.zero_le _, rfl, 0, rfl⟩
  case round =>
    obtain ⟨k, hk, rfl, q, rfl⟩ := hrel
    by_cases hlt : k < rs.length
    · have hz : (k : Int) < (rs.length : Int) := by omega
      have hd1 := decide_eq_true hz
      have HX : ∃ r, rs[k]! = r := ⟨_, rfl⟩
      obtain ⟨r, hr⟩ := HX
      have r0 : w2.cell? ⟨rb, ro + k * 8, none⟩ = some (.int .i64 r.kd) := below_some hB2 _ _ _ (HR.out k hlt 0 (.int .i64 r.kd) (by rw [hr]; rfl))
      have s0 : w2.cell? ⟨rb', ro' + k * 8, none⟩ = some (.int .i64 r.kd) := below_some hB2 _ _ _ (HR'.out k hlt 0 (.int .i64 r.kd) (by rw [hr]; rfl))
      have r1 : w2.cell? ⟨rb, ro + k * 8 + 1, none⟩ = some (.int .i64 r.mo) := below_some hB2 _ _ _ (HR.out k hlt 1 (.int .i64 r.mo) (by rw [hr]; rfl))
      have s1 : w2.cell? ⟨rb', ro' + k * 8 + 1, none⟩ = some (.int .i64 r.mo) := below_some hB2 _ _ _ (HR'.out k hlt 1 (.int .i64 r.mo) (by rw [hr]; rfl))
      have r2 : w2.cell? ⟨rb, ro + k * 8 + 2, none⟩ = some (.int .i64 r.da) := below_some hB2 _ _ _ (HR.out k hlt 2 (.int .i64 r.da) (by rw [hr]; rfl))
      have s2 : w2.cell? ⟨rb', ro' + k * 8 + 2, none⟩ = some (.int .i64 r.da) := below_some hB2 _ _ _ (HR'.out k hlt 2 (.int .i64 r.da) (by rw [hr]; rfl))
      have r3 : w2.cell? ⟨rb, ro + k * 8 + 3, none⟩ = some (.int .i64 r.kk) := below_some hB2 _ _ _ (HR.out k hlt 3 (.int .i64 r.kk) (by rw [hr]; rfl))
      have s3 : w2.cell? ⟨rb', ro' + k * 8 + 3, none⟩ = some (.int .i64 r.kk) := below_some hB2 _ _ _ (HR'.out k hlt 3 (.int .i64 r.kk) (by rw [hr]; rfl))
      have r4 : w2.cell? ⟨rb, ro + k * 8 + 4, none⟩ = some (.int .i64 r.off) := below_some hB2 _ _ _ (HR.out k hlt 4 (.int .i64 r.off) (by rw [hr]; rfl))
      have s4 : w2.cell? ⟨rb', ro' + k * 8 + 4, none⟩ = some (.int .i64 r.off) := below_some hB2 _ _ _ (HR'.out k hlt 4 (.int .i64 r.off) (by rw [hr]; rfl))
      have r5 : w2.cell? ⟨rb, ro + k * 8 + 5, none⟩ = some (.int .i64 r.sh) := below_some hB2 _ _ _ (HR.out k hlt 5 (.int .i64 r.sh) (by rw [hr]; rfl))
      have s5 : w2.cell? ⟨rb', ro' + k * 8 + 5, none⟩ = some (.int .i64 r.sh) := below_some hB2 _ _ _ (HR'.out k hlt 5 (.int .i64 r.sh) (by rw [hr]; rfl))
      have r6 : w2.cell? ⟨rb, ro + k * 8 + 6, none⟩ = some (.int .i64 r.fr) := below_some hB2 _ _ _ (HR.out k hlt 6 (.int .i64 r.fr) (by rw [hr]; rfl))
      have s6 : w2.cell? ⟨rb', ro' + k * 8 + 6, none⟩ = some (.int .i64 r.fr) := below_some hB2 _ _ _ (HR'.out k hlt 6 (.int .i64 r.fr) (by rw [hr]; rfl))
      have r7 : w2.cell? ⟨rb, ro + k * 8 + 7, none⟩ = some (.int .i64 r.to) := below_some hB2 _ _ _ (HR.out k hlt 7 (.int .i64 r.to) (by rw [hr]; rfl))
      have s7 : w2.cell? ⟨rb', ro' + k * 8 + 7, none⟩ = some (.int .i64 r.to) := below_some hB2 _ _ _ (HR'.out k hlt 7 (.int .i64 r.to) (by rw [hr]; rfl))
      clear hr
      go_wp2_with fail
      go_quiet (fail)
      go_wp2_with fail
      go_roundw
      case rel => exact ⟨k + 1, by omega, by go_num, _, rfl⟩
      case measure => simp [intOf]; omega
    · have hz : ¬ (k : Int) < (rs.length : Int) := by omega
      have hd1 := decide_eq_false hz
      go_wp2_with fail
      go_loopw [6] (fun p wr => ∃ k : Nat, k ≤ ds.length ∧ p = .int .i64 k ∧ ∃ q : Nat, wr = w2.drewN q) (fun p _ => ds.length - (intOf p).toNat)
      case atStart => exact ⟨0, Nat.zero_le _, rfl, q, rfl⟩
      case round =>
        obtain ⟨k2, hk2, rfl, q2, rfl⟩ := hrel
        by_cases hlt2 : k2 < ds.length
        · have hz2 : (k2 : Int) < (ds.length : Int) := by omega
          have hd2 := decide_eq_true hz2
          have u0 := below_some hB2 _ _ _ (HD.out k2 hlt2)
          have u1 := below_some hB2 _ _ _ (HD'.out k2 hlt2)
          generalize ds.getD k2 0 = z at *
          go_wp2_with fail
          go_quiet (fail)
          go_wp2_with fail
          go_roundw
          case rel => exact ⟨k2 + 1, by omega, by go_num, _, rfl⟩
          case measure => simp [intOf]; omega
        · have hz2 : ¬ (k2 : Int) < (ds.length : Int) := by omega
          have hd2 := decide_eq_false hz2
          go_wp2_with fail
          go_ret
          exact ⟨rfl, below_drewN' hB2 q2⟩
set_option maxRecDepth 100000 in
set_option maxHeartbeats 8000000 in
theorem same_01 (o0 o1 o2 o3 o4 o5 o6 : Bool) (rb ro rb' ro' : Nat) (cR cR' : Nat) (D D' : Option Addr) (cD cD' : Nat) (w : World) (rs : List R8) (lr : rs.length ≤ 1000000) (hrb : rb < w.heap.size) (hrb' : rb' < w.heap.size) (hr : ∀ j, j < rs.length → ∀ q u, (rs[j]!.enc)[q]? = some u → w.cell? ⟨rb, ro + j * 8 + q, none⟩ = some u) (hr' : ∀ j, j < rs.length → ∀ q u, (rs[j]!.enc)[q]? = some u → w.cell? ⟨rb', ro' + j * 8 + q, none⟩ = some u)  : Calls Tryd.prog 41 #[.agg #[.bool o0, .bool o1, .bool o2, .bool o3, .bool o4, .bool o5, .bool o6, .slice (some ⟨rb, ro, none⟩) rs.length cR, .slice D 0 cD], .agg #[.bool o0, .bool o1, .bool o2, .bool o3, .bool o4, .bool o5, .bool o6, .slice (some ⟨rb', ro', none⟩) rs.length cR', .slice D' 0 cD']] w fun e w' => e = .returned (.bool true) ∧ Below w.heap.size w w' := by
  have hB : Below w.heap.size w w := Below.refl _ _
  have hwk : ∀ W : World, (Op.equalIn 10000 22 (.agg #[.bool o0, .bool o1, .bool o2, .bool o3, .bool o4, .bool o5, .bool o6]) (.agg #[.bool o0, .bool o1, .bool o2, .bool o3, .bool o4, .bool o5, .bool o6])).run Tryd.prog W = .ok true W := fun W => by rw [eq_week Tryd.underlying22]; simp
  have HR := Lib.hid hr; have HR' := Lib.hid hr'; clear hr hr'
  go_enter Tryd.func41, Tryd.ntmps41
  go_upto_region 3 with fail
  generalize hW : ((w.alloc _).alloc _) = w2
  have hB2 : Below w.heap.size w w2 := by rw [← hW]; exact below_al (below_al (Below.refl _ _))
  have c7 : w2.cell? ⟨w.heap.size, 7, none⟩ = some (.slice (some ⟨rb, ro, none⟩) rs.length cR) := by rw [← hW]; exact cell_al (cell_nu rfl rfl)
  have c8 : w2.cell? ⟨w.heap.size, 8, none⟩ = some (.slice D 0 cD) := by rw [← hW]; exact cell_al (cell_nu rfl rfl)
  have b7 : w2.cell? ⟨w.heap.size + 1, 7, none⟩ = some (.slice (some ⟨rb', ro', none⟩) rs.length cR') := by rw [← hW]; exact cell_nu (by simp) rfl
  have b8 : w2.cell? ⟨w.heap.size + 1, 8, none⟩ = some (.slice D' 0 cD') := by rw [← hW]; exact cell_nu (by simp) rfl
  clear hW
  go_wp2_with fail
  go_loopw [5] (fun p wr => ∃ k : Nat, k ≤ rs.length ∧ p = .int .i64 k ∧ ∃ q : Nat, wr = w2.drewN q) (fun p _ => rs.length - (intOf p).toNat)
  case atStart => exact ⟨0, Nat.zero_le _, rfl, 0, rfl⟩
  case round =>
    obtain ⟨k, hk, rfl, q, rfl⟩ := hrel
    by_cases hlt : k < rs.length
    · have hz : (k : Int) < (rs.length : Int) := by omega
      have hd1 := decide_eq_true hz
      have HX : ∃ r, rs[k]! = r := ⟨_, rfl⟩
      obtain ⟨r, hr⟩ := HX
      have r0 : w2.cell? ⟨rb, ro + k * 8, none⟩ = some (.int .i64 r.kd) := below_some hB2 _ _ _ (HR.out k hlt 0 (.int .i64 r.kd) (by rw [hr]; rfl))
      have s0 : w2.cell? ⟨rb', ro' + k * 8, none⟩ = some (.int .i64 r.kd) := below_some hB2 _ _ _ (HR'.out k hlt 0 (.int .i64 r.kd) (by rw [hr]; rfl))
      have r1 : w2.cell? ⟨rb, ro + k * 8 + 1, none⟩ = some (.int .i64 r.mo) := below_some hB2 _ _ _ (HR.out k hlt 1 (.int .i64 r.mo) (by rw [hr]; rfl))
      have s1 : w2.cell? ⟨rb', ro' + k * 8 + 1, none⟩ = some (.int .i64 r.mo) := below_some hB2 _ _ _ (HR'.out k hlt 1 (.int .i64 r.mo) (by rw [hr]; rfl))
      have r2 : w2.cell? ⟨rb, ro + k * 8 + 2, none⟩ = some (.int .i64 r.da) := below_some hB2 _ _ _ (HR.out k hlt 2 (.int .i64 r.da) (by rw [hr]; rfl))
      have s2 : w2.cell? ⟨rb', ro' + k * 8 + 2, none⟩ = some (.int .i64 r.da) := below_some hB2 _ _ _ (HR'.out k hlt 2 (.int .i64 r.da) (by rw [hr]; rfl))
      have r3 : w2.cell? ⟨rb, ro + k * 8 + 3, none⟩ = some (.int .i64 r.kk) := below_some hB2 _ _ _ (HR.out k hlt 3 (.int .i64 r.kk) (by rw [hr]; rfl))
      have s3 : w2.cell? ⟨rb', ro' + k * 8 + 3, none⟩ = some (.int .i64 r.kk) := below_some hB2 _ _ _ (HR'.out k hlt 3 (.int .i64 r.kk) (by rw [hr]; rfl))
      have r4 : w2.cell? ⟨rb, ro + k * 8 + 4, none⟩ = some (.int .i64 r.off) := below_some hB2 _ _ _ (HR.out k hlt 4 (.int .i64 r.off) (by rw [hr]; rfl))
      have s4 : w2.cell? ⟨rb', ro' + k * 8 + 4, none⟩ = some (.int .i64 r.off) := below_some hB2 _ _ _ (HR'.out k hlt 4 (.int .i64 r.off) (by rw [hr]; rfl))
      have r5 : w2.cell? ⟨rb, ro + k * 8 + 5, none⟩ = some (.int .i64 r.sh) := below_some hB2 _ _ _ (HR.out k hlt 5 (.int .i64 r.sh) (by rw [hr]; rfl))
      have s5 : w2.cell? ⟨rb', ro' + k * 8 + 5, none⟩ = some (.int .i64 r.sh) := below_some hB2 _ _ _ (HR'.out k hlt 5 (.int .i64 r.sh) (by rw [hr]; rfl))
      have r6 : w2.cell? ⟨rb, ro + k * 8 + 6, none⟩ = some (.int .i64 r.fr) := below_some hB2 _ _ _ (HR.out k hlt 6 (.int .i64 r.fr) (by rw [hr]; rfl))
      have s6 : w2.cell? ⟨rb', ro' + k * 8 + 6, none⟩ = some (.int .i64 r.fr) := below_some hB2 _ _ _ (HR'.out k hlt 6 (.int .i64 r.fr) (by rw [hr]; rfl))
      have r7 : w2.cell? ⟨rb, ro + k * 8 + 7, none⟩ = some (.int .i64 r.to) := below_some hB2 _ _ _ (HR.out k hlt 7 (.int .i64 r.to) (by rw [hr]; rfl))
      have s7 : w2.cell? ⟨rb', ro' + k * 8 + 7, none⟩ = some (.int .i64 r.to) := below_some hB2 _ _ _ (HR'.out k hlt 7 (.int .i64 r.to) (by rw [hr]; rfl))
      clear hr
      go_wp2_with fail
      go_quiet (fail)
      go_wp2_with fail
      go_roundw
      case rel => exact ⟨k + 1, by omega, by go_num, _, rfl⟩
      case measure => simp [intOf]; omega
    · have hz : ¬ (k : Int) < (rs.length : Int) := by omega
      have hd1 := decide_eq_false hz
      go_wp2_with fail
      refine wp_loop_rounds 1 ?_
      rw [rounds_succ]
      go_wp2_with fail
      go_ret
      exact ⟨rfl, (below_drewN' hB2 q)⟩
set_option maxRecDepth 100000 in
set_option maxHeartbeats 8000000 in
theorem same_10 (o0 o1 o2 o3 o4 o5 o6 : Bool) (A A' : Option Addr) (cR cR' : Nat) (db do_ db' do' : Nat) (cD cD' : Nat) (w : World) (ds : List Int) (ld : ds.length ≤ 1000000) (hdb : db < w.heap.size) (hdb' : db' < w.heap.size) (hd : ∀ j, j < ds.length → w.cell? ⟨db, do_ + j, none⟩ = some (.int .i64 (ds.getD j 0))) (hd' : ∀ j, j < ds.length → w.cell? ⟨db', do' + j, none⟩ = some (.int .i64 (ds.getD j 0)))  : Calls Tryd.prog 41 #[.agg #[.bool o0, .bool o1, .bool o2, .bool o3, .bool o4, .bool o5, .bool o6, .slice A 0 cR, .slice (some ⟨db, do_, none⟩) ds.length cD], .agg #[.bool o0, .bool o1, .bool o2, .bool o3, .bool o4, .bool o5, .bool o6, .slice A' 0 cR', .slice (some ⟨db', do', none⟩) ds.length cD']] w fun e w' => e = .returned (.bool true) ∧ Below w.heap.size w w' := by
  have hB : Below w.heap.size w w := Below.refl _ _
  have hwk : ∀ W : World, (Op.equalIn 10000 22 (.agg #[.bool o0, .bool o1, .bool o2, .bool o3, .bool o4, .bool o5, .bool o6]) (.agg #[.bool o0, .bool o1, .bool o2, .bool o3, .bool o4, .bool o5, .bool o6])).run Tryd.prog W = .ok true W := fun W => by rw [eq_week Tryd.underlying22]; simp
  have HD := Lib.hid hd; have HD' := Lib.hid hd'; clear hd hd'
  go_enter Tryd.func41, Tryd.ntmps41
  go_upto_region 3 with fail
  generalize hW : ((w.alloc _).alloc _) = w2
  have hB2 : Below w.heap.size w w2 := by rw [← hW]; exact below_al (below_al (Below.refl _ _))
  have c7 : w2.cell? ⟨w.heap.size, 7, none⟩ = some (.slice A 0 cR) := by rw [← hW]; exact cell_al (cell_nu rfl rfl)
  have c8 : w2.cell? ⟨w.heap.size, 8, none⟩ = some (.slice (some ⟨db, do_, none⟩) ds.length cD) := by rw [← hW]; exact cell_al (cell_nu rfl rfl)
  have b7 : w2.cell? ⟨w.heap.size + 1, 7, none⟩ = some (.slice A' 0 cR') := by rw [← hW]; exact cell_nu (by simp) rfl
  have b8 : w2.cell? ⟨w.heap.size + 1, 8, none⟩ = some (.slice (some ⟨db', do', none⟩) ds.length cD') := by rw [← hW]; exact cell_nu (by simp) rfl
  clear hW
  go_wp2_with fail
  refine wp_loop_rounds 1 ?_
  rw [rounds_succ]
  go_wp2_with fail
  go_loopw [6] (fun p wr => ∃ k : Nat, k ≤ ds.length ∧ p = .int .i64 k ∧ ∃ q : Nat, wr = w2.drewN q) (fun p _ => ds.length - (intOf p).toNat)
  case atStart => exact ⟨0, Nat.zero_le _, rfl, 0, rfl⟩
  case round =>
    obtain ⟨k2, hk2, rfl, q2, rfl⟩ := hrel
    by_cases hlt2 : k2 < ds.length
    · have hz2 : (k2 : Int) < (ds.length : Int) := by omega
      have hd2 := decide_eq_true hz2
      have u0 := below_some hB2 _ _ _ (HD.out k2 hlt2)
      have u1 := below_some hB2 _ _ _ (HD'.out k2 hlt2)
      generalize ds.getD k2 0 = z at *
      go_wp2_with fail
      go_quiet (fail)
      go_wp2_with fail
      go_roundw
      case rel => exact ⟨k2 + 1, by omega, by go_num, _, rfl⟩
      case measure => simp [intOf]; omega
    · have hz2 : ¬ (k2 : Int) < (ds.length : Int) := by omega
      have hd2 := decide_eq_false hz2
      go_wp2_with fail
      go_ret
      exact ⟨rfl, below_drewN' hB2 q2⟩
set_option maxRecDepth 100000 in
set_option maxHeartbeats 8000000 in
theorem same_11 (o0 o1 o2 o3 o4 o5 o6 : Bool) (A A' : Option Addr) (cR cR' : Nat) (D D' : Option Addr) (cD cD' : Nat) (w : World)  : Calls Tryd.prog 41 #[.agg #[.bool o0, .bool o1, .bool o2, .bool o3, .bool o4, .bool o5, .bool o6, .slice A 0 cR, .slice D 0 cD], .agg #[.bool o0, .bool o1, .bool o2, .bool o3, .bool o4, .bool o5, .bool o6, .slice A' 0 cR', .slice D' 0 cD']] w fun e w' => e = .returned (.bool true) ∧ Below w.heap.size w w' := by
  have hB : Below w.heap.size w w := Below.refl _ _
  have hwk : ∀ W : World, (Op.equalIn 10000 22 (.agg #[.bool o0, .bool o1, .bool o2, .bool o3, .bool o4, .bool o5, .bool o6]) (.agg #[.bool o0, .bool o1, .bool o2, .bool o3, .bool o4, .bool o5, .bool o6])).run Tryd.prog W = .ok true W := fun W => by rw [eq_week Tryd.underlying22]; simp
  go_enter Tryd.func41, Tryd.ntmps41
  go_upto_region 3 with fail
  generalize hW : ((w.alloc _).alloc _) = w2
  have hB2 : Below w.heap.size w w2 := by rw [← hW]; exact below_al (below_al (Below.refl _ _))
  have c7 : w2.cell? ⟨w.heap.size, 7, none⟩ = some (.slice A 0 cR) := by rw [← hW]; exact cell_al (cell_nu rfl rfl)
  have c8 : w2.cell? ⟨w.heap.size, 8, none⟩ = some (.slice D 0 cD) := by rw [← hW]; exact cell_al (cell_nu rfl rfl)
  have b7 : w2.cell? ⟨w.heap.size + 1, 7, none⟩ = some (.slice A' 0 cR') := by rw [← hW]; exact cell_nu (by simp) rfl
  have b8 : w2.cell? ⟨w.heap.size + 1, 8, none⟩ = some (.slice D' 0 cD') := by rw [← hW]; exact cell_nu (by simp) rfl
  clear hW
  go_wp2_with fail
  refine wp_loop_rounds 1 ?_
  rw [rounds_succ]
  go_wp2_with fail
  refine wp_loop_rounds 1 ?_
  rw [rounds_succ]
  go_wp2_with fail
  go_ret
  exact ⟨rfl, hB2⟩
theorem same_c (o0 o1 o2 o3 o4 o5 o6 : Bool) (A A' : Option Addr) (cR cR' : Nat) (rs : List R8) (D D' : Option Addr) (cD cD' : Nat) (ds : List Int) (lr : rs.length ≤ 1000000) (ld : ds.length ≤ 1000000) (w : World) (hr : RIn w A rs) (hr' : RIn w A' rs) (hd : DIn w D ds) (hd' : DIn w D' ds) :
    Calls Tryd.prog 41 #[.agg #[.bool o0, .bool o1, .bool o2, .bool o3, .bool o4, .bool o5, .bool o6, .slice A rs.length cR, .slice D ds.length cD], .agg #[.bool o0, .bool o1, .bool o2, .bool o3, .bool o4, .bool o5, .bool o6, .slice A' rs.length cR', .slice D' ds.length cD']] w fun e w' => e = .returned (.bool true) ∧ Below w.heap.size w w' := by
  by_cases er : rs = []
  · subst er
    by_cases ed : ds = []
    · subst ed; exact same_11 o0 o1 o2 o3 o4 o5 o6 A A' cR cR' D D' cD cD' w
    · obtain ⟨db, do_, rfl, h1, h2⟩ := hd.resolve_left ed
      obtain ⟨db', do', rfl, h3, h4⟩ := hd'.resolve_left ed
      exact same_10 o0 o1 o2 o3 o4 o5 o6 A A' cR cR' db do_ db' do' cD cD' w ds ld h1 h3 h2 h4
  · obtain ⟨rb, ro, rfl, g1, g2⟩ := hr.resolve_left er
    obtain ⟨rb', ro', rfl, g3, g4⟩ := hr'.resolve_left er
    by_cases ed : ds = []
    · subst ed; exact same_01 o0 o1 o2 o3 o4 o5 o6 rb ro rb' ro' cR cR' D D' cD cD' w rs lr g1 g3 g2 g4
    · obtain ⟨db, do_, rfl, h1, h2⟩ := hd.resolve_left ed
      obtain ⟨db', do', rfl, h3, h4⟩ := hd'.resolve_left ed
      exact same_00 o0 o1 o2 o3 o4 o5 o6 rb ro rb' ro' cR cR' db do_ db' do' cD cD' w rs lr g1 g3 g2 g4 ds ld h1 h3 h2 h4
end Go.Proofs.YtlilffoflkkbdaaDoor
