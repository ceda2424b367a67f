/- The contracts of the library's growing and joining of two slices, of days and of rules. Conditions: sizes far below the machine's. -/
import Derived.Test.YtlilffoflkkbdaaDoorShSort
import Derived.Test.YtlilffoflkkbdaaDoorCald
import Derived.Test.YtlilffoflkkbdaaDoorUndef
import Derived.Maps.AppendAt
import Derived.OwnWalk
import Derived.Outline
namespace Go.Proofs.YtlilffoflkkbdaaDoor
open Go.RowKit
set_option linter.unusedVariables false
theorem ad_add (b o i : Nat) : (⟨b, o, none⟩ : Addr).add i = ⟨b, o + i, none⟩ := by
  unfold Addr.add
  by_cases h : i = 0
  · subst h; simp
  · simp [h]
/-- A slice's cells, as they lie: none, or from an address on. -/
def SrcIn (w : World) (size : Nat) (A : Option Addr) (n : Nat) (xs : List Value) : Prop :=
  xs.length = n * size ∧ (n = 0 ∨ ∃ b o, A = some ⟨b, o, none⟩ ∧ b < w.heap.size ∧ ∀ (j : Nat) u, xs[j]? = some u → w.cell? ⟨b, o + j, none⟩ = some u)
theorem SrcIn.below {w w' : World} {size n : Nat} {A : Option Addr} {xs : List Value} (h : SrcIn w size A n xs) (hb : Below w.heap.size w w') : SrcIn w' size A n xs := by
  refine ⟨h.1, ?_⟩
  rcases h.2 with h | ⟨b, o, h1, h2, h3⟩
  · exact Or.inl h
  · exact Or.inr ⟨b, o, h1, Nat.lt_of_lt_of_le h2 hb.size, fun j u hu => (hb.cell (p := ⟨b, o + j, none⟩) h2).trans (h3 j u hu)⟩
theorem run_app_none {P : Program} (w : World) (base : Nat) (t ty e : TypeId) (i : TypeInfo) (size : Nat) (ht : P.underlying t = some (.slice e)) (hi : P.info? e = some i)
    (v : Value) (n : Nat) (xs : List Value) (hown : w.ownsRow base e size v n xs) (c : Nat) : (Builtin.append_ #[t, t] ty #[v, .slice none 0 c]).run P w = .ok v w := by
  rcases hown.2 with ⟨rfl, rfl⟩ | ⟨g, cap, cur, rfl, _, _, hnc, _⟩
  · simp [Builtin.append_, run_underlying ht, sizeOf, typeInfo, hi, Builtin.lenOf, Builtin.firstCells]
  · simp [Builtin.append_, run_underlying ht, sizeOf, typeInfo, hi, Builtin.lenOf, Builtin.firstCells, hnc, storeCells]
theorem wpList_app_in {P : Program} {w : World} {ops : Array Oper} {rest : List Oper} {o : Oper} {a : Act} {Q : Exit → Act → World → Prop} (hgd : o.guard = none) (s x : Operand) (t : TypeId)
    (ho : o.op = .call { callee := .builtin .append, args := #[s, x], argTypes := #[t, t] })
    (base : Nat) (e : TypeId) (i : TypeInfo) (z : Value) (size bytes : Nat) (ht : P.underlying t = some (.slice e)) (hi : P.info? e = some i) (hz : i.zero = some z)
    (hsize : i.size = size) (hby : i.bytes = bytes) (hzs : z.cells.size = size) (hsz : 0 < size)
    (v : Value) (n : Nat) (xs : List Value) (hs : a.eval s = v) (hown : w.ownsRow base e size v n xs)
    (A : Option Addr) (m c : Nat) (news : List Value) (hx : a.eval x = .slice A m c) (hsrc : SrcIn w size A m news) (h1 : ∀ u ∈ news, u.oneCell' = true)
    (h63 : n + m ≤ maxLen) (hbytes : (n + m) * bytes ≤ 140737488355328) (hbase : base ≤ w.heap.size)
    (h : ∀ v' w', w'.ownsRow base e size v' (n + m) (xs ++ news) → w.grownBy w' v.ownBlock → wpList P ops Q rest (a.put o.dst v') w') :
    wpList P ops Q (o :: rest) a w := by
  refine wpList_plain hgd fun K hK => ?_
  have key : ∃ v' w', (Builtin.append_ #[t, t] o.type #[v, .slice A m c]).run P w = .ok v' w' ∧ w'.ownsRow base e size v' (n + m) (xs ++ news) ∧ w.grownBy w' v.ownBlock := by
    rcases hsrc.2 with h0 | ⟨b, off, rfl, _, hc⟩
    · subst h0
      obtain rfl : news = [] := List.eq_nil_of_length_eq_zero (by simpa using hsrc.1)
      cases A with
      | none => exact ⟨v, w, run_app_none w base t o.type e i size ht hi v n xs hown c, by simpa using hown, World.grownBy.refl w _⟩
      | some ad =>
        obtain ⟨v', w', hr, h2, h3, _⟩ := run_append_own_at (P := P) w base t o.type e i z size bytes ht hi hz hsize hby hzs hsz v n xs hown ad 0 c [] (by simp) (fun j u hu => by simp at hu) h1 h63 hbytes hbase
        exact ⟨v', w', hr, h2, h3⟩
    · obtain ⟨v', w', hr, h2, h3, _⟩ := run_append_own_at (P := P) w base t o.type e i z size bytes ht hi hz hsize hby hzs hsz v n xs hown ⟨b, off, none⟩ m c news hsrc.1 (fun j u hu => by
        rw [ad_add]; exact hc j u hu) h1 h63 hbytes hbase
      exact ⟨v', w', hr, h2, h3⟩
  obtain ⟨v', w', hr, h2, h3⟩ := key
  unfold Oper.wp execOp
  simp only [ho, resolve, invoke, builtin, Sem.run_bind, Sem.run_pure, Result.andThen_ok, List.map_toArray, List.map_cons, List.map_nil, hs, hx, hr]
  exact hK _ _ (h v' w' h2 h3)
/-! Rules as cells, one behind the other. -/
theorem enc_flat : ∀ (rs : List R8) (j i : Nat), j < rs.length → i < 8 → (rs.flatMap R8.enc)[j * 8 + i]? = (rs[j]!.enc)[i]?
  | [], j, i, hj, _ => absurd hj (Nat.not_lt_zero _)
  | r :: rs, 0, i, _, hi => by
    rw [List.flatMap_cons, List.getElem?_append_left (by rw [R8.enc_length]; omega), Nat.zero_mul, Nat.zero_add]; rfl
  | r :: rs, j + 1, i, hj, hi => by
    rw [List.flatMap_cons, List.getElem?_append_right (by rw [R8.enc_length]; omega), R8.enc_length, show (j + 1) * 8 + i - 8 = j * 8 + i by omega]
    rw [enc_flat rs j i (by simpa using hj) hi]; rfl
theorem enc_flat_len (rs : List R8) : (rs.flatMap R8.enc).length = rs.length * 8 := by
  induction rs with
  | nil => rfl
  | cons r rs ih => rw [List.flatMap_cons, List.length_append, ih, R8.enc_length, List.length_cons]; omega
theorem enc_one (r : R8) : ∀ u ∈ r.enc, u.oneCell' = true := by
  intro u hu
  simp only [R8.enc, List.mem_cons, List.not_mem_nil, or_false] at hu
  rcases hu with rfl | rfl | rfl | rfl | rfl | rfl | rfl | rfl <;> rfl
theorem flat_one (rs : List R8) : ∀ u ∈ rs.flatMap R8.enc, u.oneCell' = true := by
  intro u hu
  obtain ⟨r, _, h⟩ := List.mem_flatMap.1 hu
  exact enc_one r u h
theorem RIn.src {w : World} {A : Option Addr} {rs : List R8} (h : RIn w A rs) : SrcIn w 8 A rs.length (rs.flatMap R8.enc) := by
  refine ⟨enc_flat_len rs, ?_⟩
  rcases h with h | ⟨b, o, h1, h2, h3⟩
  · exact Or.inl (by rw [h]; rfl)
  · refine Or.inr ⟨b, o, h1, h2, fun j u hu => ?_⟩
    have hj : j < rs.length * 8 := by rw [← enc_flat_len]; exact (List.getElem?_eq_some_iff.1 hu).1
    have e := enc_flat rs (j / 8) (j % 8) (by omega) (by omega)
    rw [show j / 8 * 8 + j % 8 = j by omega, hu] at e
    have := h3 (j / 8) (by omega) (j % 8) u e.symm
    rwa [show o + j / 8 * 8 + j % 8 = o + j by omega] at this
def ints (l : List Int) : List Value := l.map (fun n => .int .i64 n)
theorem ints_one (l : List Int) : ∀ u ∈ ints l, u.oneCell' = true := by
  intro u hu
  obtain ⟨n, _, rfl⟩ := List.mem_map.1 hu
  rfl
theorem ints_app (a b : List Int) : ints (a ++ b) = ints a ++ ints b := List.map_append
theorem ints_len (l : List Int) : (ints l).length = l.length := List.length_map _
theorem ints_at (l : List Int) (j : Nat) (h : j < l.length) : (ints l)[j]? = some (.int .i64 (l.getD j 0)) := by
  unfold ints
  rw [List.getElem?_map, List.getElem?_eq_getElem h, List.getD_eq_getElem?_getD, List.getElem?_eq_getElem h]; rfl
theorem DIn.src {w : World} {D : Option Addr} {ds : List Int} (h : DIn w D ds) : SrcIn w 1 D ds.length (ints ds) := by
  refine ⟨by rw [ints_len]; omega, ?_⟩
  rcases h with h | ⟨b, o, h1, h2, h3⟩
  · exact Or.inl (by rw [h]; rfl)
  · refine Or.inr ⟨b, o, h1, h2, fun j u hu => ?_⟩
    have hj : j < ds.length := by rw [← ints_len]; exact (List.getElem?_eq_some_iff.1 hu).1
    rw [ints_at ds j hj] at hu
    cases hu
    exact h3 j hj
/-- What the call owns lies as days. -/
theorem owns_days {w : World} {base n : Nat} {e : TypeId} {v : Value} {l : List Int} (h : w.ownsRow base e 1 v n (ints l)) : ∃ D c, v = .slice D l.length c ∧ DIn w D l := by
  have hn : n = l.length := by have := h.1; rw [ints_len] at this; omega
  rcases h.2 with ⟨rfl, h0⟩ | ⟨g, cap, cur, rfl, _, hg, _⟩
  · have : l = [] := List.eq_nil_of_length_eq_zero (by omega)
    subst this; exact ⟨none, 0, rfl, Or.inl rfl⟩
  · refine ⟨some ⟨g, 0, none⟩, cap, by rw [hn], Or.inr ⟨g, 0, rfl, ?_, fun j hj => ?_⟩⟩
    · exact (h.lt g rfl).2
    · have := h.cells (g := g) rfl j _ (ints_at l j hj)
      rwa [ad_add] at this
theorem owns_rules {w : World} {base n : Nat} {e : TypeId} {v : Value} {rs : List R8} (h : w.ownsRow base e 8 v n (rs.flatMap R8.enc)) : ∃ A c, v = .slice A rs.length c ∧ RIn w A rs := by
  have hn : n = rs.length := by have := h.1; rw [enc_flat_len] at this; omega
  rcases h.2 with ⟨rfl, h0⟩ | ⟨g, cap, cur, rfl, _, hg, _⟩
  · have : rs = [] := List.eq_nil_of_length_eq_zero (by omega)
    subst this; exact ⟨none, 0, rfl, Or.inl rfl⟩
  · refine ⟨some ⟨g, 0, none⟩, cap, by rw [hn], Or.inr ⟨g, 0, rfl, (h.lt g rfl).2, fun j hj i u hu => ?_⟩⟩
    have hi : i < 8 := by
      have := (List.getElem?_eq_some_iff.1 hu).1
      simpa [R8.enc] using this
    have := h.cells (g := g) rfl (j * 8 + i) u (by rw [enc_flat rs j i hj hi]; exact hu)
    rw [ad_add] at this
    rwa [show 0 + j * 8 + i = 0 + (j * 8 + i) by omega]
theorem zeros_size (z : Value) (size k : Nat) (hz : z.cells.size = size) : (Builtin.zeroCells z.cells k).size = k * size := by
  induction k with
  | zero => simp [Builtin.zeroCells]
  | succ k ih => simp [Builtin.zeroCells] at ih ⊢; rw [hz]
theorem made_of {w : World} {z : Value} {size n G : Nat} {e : TypeId} {B : Nat} (hz : z.cells.size = size) (h1 : 0 + n ≤ G) (h2 : G ≤ maxLen) (hB : B ≤ w.heap.size) :
    (w.drew.alloc (.cells (([] : List Value).toArray ++ Builtin.zeroCells z.cells (0 + n - 0) ++ Builtin.zeroCells z.cells (G - (0 + n))) e)).ownsRow B e size (.slice (some ⟨w.heap.size, 0, none⟩) 0 G) 0 [] := by
  refine ⟨by simp, Or.inr ⟨w.heap.size, G, _, rfl, hB, heap_alloc_new w.drew _, Nat.zero_le _, h2, ?_, by simp⟩⟩
  rw [Array.size_append, Array.size_append, zeros_size z size _ hz, zeros_size z size _ hz]
  show 0 + _ + _ = _
  rw [Nat.zero_add, ← Nat.add_mul]
  congr 1; omega
theorem infoD : (Tryd.prog.info? 3).map (fun i => (i.zero, i.size, i.bytes)) = some (some (.int .i64 0), 1, 8) := by kernel_rfl
theorem infoR : (Tryd.prog.info? 68).map (fun i => (i.zero, i.size, i.bytes)) = some (some (.agg #[.int .i64 0, .int .i64 0, .int .i64 0, .int .i64 0, .int .i64 0, .int .i64 0, .int .i64 0, .int .i64 0]), 8, 64) := by kernel_rfl
theorem growD_c (m : Int) (n : Nat) (hm : m = n) (hn : n ≤ 2000000) (w : World) : Calls Tryd.prog 88 #[.slice none 0 0, .int .i64 m] w fun e w' => ∃ v, e = .returned v ∧ w'.ownsRow w.heap.size 3 1 v 0 [] ∧ Below w.heap.size w w' := by
  subst hm
  by_cases h0 : n = 0
  · subst h0
    exact (Any8.slices_Grow_room Tryd.growD none 0 0 0 w (Nat.le_refl _) (by decide) (by decide) (Nat.le_refl _)).mono fun e w' ⟨h1, h2⟩ => ⟨_, h1, World.ownsRow_nil _ _ _ _, by rw [h2]; exact Below.refl _ _⟩
  · obtain ⟨i0, hi, hz, hs, hb⟩ := info_parts infoD
    refine (Any8.slices_Grow_grow Tryd.growD i0 _ hi hz (by omega) none 0 0 n [] w (Nat.le_refl _) (by omega) (by rw [hb]; omega) (by omega) (by simp) (fun _ => rfl) (fun a h => by cases h)).mono fun e w' ⟨h1, h2⟩ => ⟨_, h1, ?_, ?_⟩
    · have h3 := grownCap_ge w (0 + n) 0 3
      have h4 := grownCap_le_maxLen w (0 + n) 0 3 (by unfold maxLen; omega)
      rw [h2]
      exact made_of (z := (.int .i64 0)) (by rfl) h3 h4 (Nat.le_refl _)
    · rw [h2]; exact ((Below.refl _ _).drew).alloc (by simp) _
theorem growR_c (m : Int) (n : Nat) (hm : m = n) (hn : n ≤ 2000000) (w : World) : Calls Tryd.prog 78 #[.slice none 0 0, .int .i64 m] w fun e w' => ∃ v, e = .returned v ∧ w'.ownsRow w.heap.size 68 8 v 0 [] ∧ Below w.heap.size w w' := by
  subst hm
  by_cases h0 : n = 0
  · subst h0
    exact (Any8.slices_Grow_room Tryd.growR none 0 0 0 w (Nat.le_refl _) (by decide) (by decide) (Nat.le_refl _)).mono fun e w' ⟨h1, h2⟩ => ⟨_, h1, World.ownsRow_nil _ _ _ _, by rw [h2]; exact Below.refl _ _⟩
  · obtain ⟨i0, hi, hz, hs, hb⟩ := info_parts infoR
    refine (Any8.slices_Grow_grow Tryd.growR i0 _ hi hz (by omega) none 0 0 n [] w (Nat.le_refl _) (by omega) (by rw [hb]; omega) (by omega) (by simp) (fun _ => rfl) (fun a h => by cases h)).mono fun e w' ⟨h1, h2⟩ => ⟨_, h1, ?_, ?_⟩
    · have h3 := grownCap_ge w (0 + n) 0 68
      have h4 := grownCap_le_maxLen w (0 + n) 0 68 (by unfold maxLen; omega)
      rw [h2]
      exact made_of (z := (.agg #[.int .i64 0, .int .i64 0, .int .i64 0, .int .i64 0, .int .i64 0, .int .i64 0, .int .i64 0, .int .i64 0])) (by rfl) h3 h4 (Nat.le_refl _)
    · rw [h2]; exact ((Below.refl _ _).drew).alloc (by simp) _
end Go.Proofs.YtlilffoflkkbdaaDoor
