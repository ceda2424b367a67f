/- Rows of whole numbers as they lie in memory, and appending to a row that the call owns. Conditions: none. -/
import Derived.Test.YtjcjchapfiokeaaDoorCivF
import Derived.Test.YtjcjchapfiokeaaDoorUndef
import Derived.Maps.AppendAt
import Derived.OwnWalk
import Derived.Outline
import Derived.Deep.RegionHeld3
namespace Go.Proofs.YtjcjchapfiokeaaDoor
open Go.RowKit
set_option linter.unusedVariables false
/-- Days, as they lie. -/
def DIn (w : World) (D : Option Addr) (ds : List Int) : Prop := ds = [] ∨ ∃ b o, D = some ⟨b, o, none⟩ ∧ b < w.heap.size ∧ ∀ j, j < ds.length → w.cell? ⟨b, o + j, none⟩ = some (.int .i64 (ds.getD j 0))
theorem DIn.below {w w' : World} {D : Option Addr} {ds : List Int} (h : DIn w D ds) (hb : Below w.heap.size w w') : DIn w' D ds := by
  rcases h with h | ⟨b, o, h1, h2, h3⟩
  · exact Or.inl h
  · exact Or.inr ⟨b, o, h1, Nat.lt_of_lt_of_le h2 hb.size, fun j hj => (hb.cell (p := ⟨b, o + j, none⟩) h2).trans (h3 j hj)⟩
theorem ad_add (b o i : Nat) : (⟨b, o, none⟩ : Addr).add i = ⟨b, o + i, none⟩ := by
  unfold Addr.add
  by_cases h : i = 0
  · subst h; simp
  · simp [h]
/-- A slice's cells, as they lie: none, or from an address on. -/
def SrcIn (w : World) (size : Nat) (A : Option Addr) (n : Nat) (xs : List Value) : Prop :=
  xs.length = n * size ∧ (n = 0 ∨ ∃ b o, A = some ⟨b, o, none⟩ ∧ b < w.heap.size ∧ ∀ (j : Nat) u, xs[j]? = some u → w.cell? ⟨b, o + j, none⟩ = some u)
theorem SrcIn.below {w w' : World} {size n : Nat} {A : Option Addr} {xs : List Value} (h : SrcIn w size A n xs) (hb : Below w.heap.size w w') : SrcIn w' size A n xs := by
  refine ⟨h.1, ?_⟩
  rcases h.2 with h | ⟨b, o, h1, h2, h3⟩
  · exact Or.inl h
  · exact Or.inr ⟨b, o, h1, Nat.lt_of_lt_of_le h2 hb.size, fun j u hu => (hb.cell (p := ⟨b, o + j, none⟩) h2).trans (h3 j u hu)⟩
theorem run_app_none {P : Program} (w : World) (base : Nat) (t ty e : TypeId) (i : TypeInfo) (size : Nat) (ht : P.underlying t = some (.slice e)) (hi : P.info? e = some i)
    (v : Value) (n : Nat) (xs : List Value) (hown : w.ownsRow base e size v n xs) (c : Nat) : (Builtin.append_ #[t, t] ty #[v, .slice none 0 c]).run P w = .ok v w := by
  rcases hown.2 with ⟨rfl, rfl⟩ | ⟨g, cap, cur, rfl, _, _, hnc, _⟩
  · simp [Builtin.append_, run_underlying ht, sizeOf, typeInfo, hi, Builtin.lenOf, Builtin.firstCells]
  · simp [Builtin.append_, run_underlying ht, sizeOf, typeInfo, hi, Builtin.lenOf, Builtin.firstCells, hnc, storeCells]
theorem wpList_app_in {P : Program} {w : World} {ops : Array Oper} {rest : List Oper} {o : Oper} {a : Act} {Q : Exit → Act → World → Prop} (hgd : o.guard = none) (s x : Operand) (t : TypeId)
    (ho : o.op = .call { callee := .builtin .append, args := #[s, x], argTypes := #[t, t] })
    (base : Nat) (e : TypeId) (i : TypeInfo) (z : Value) (size bytes : Nat) (ht : P.underlying t = some (.slice e)) (hi : P.info? e = some i) (hz : i.zero = some z)
    (hsize : i.size = size) (hby : i.bytes = bytes) (hzs : z.cells.size = size) (hsz : 0 < size)
    (v : Value) (n : Nat) (xs : List Value) (hs : a.eval s = v) (hown : w.ownsRow base e size v n xs)
    (A : Option Addr) (m c : Nat) (news : List Value) (hx : a.eval x = .slice A m c) (hsrc : SrcIn w size A m news) (h1 : ∀ u ∈ news, u.oneCell' = true)
    (h63 : n + m ≤ maxLen) (hbytes : (n + m) * bytes ≤ 140737488355328) (hbase : base ≤ w.heap.size)
    (h : ∀ v' w', w'.ownsRow base e size v' (n + m) (xs ++ news) → w.grownBy w' v.ownBlock → wpList P ops Q rest (a.put o.dst v') w') :
    wpList P ops Q (o :: rest) a w := by
  refine wpList_plain hgd fun K hK => ?_
  have key : ∃ v' w', (Builtin.append_ #[t, t] o.type #[v, .slice A m c]).run P w = .ok v' w' ∧ w'.ownsRow base e size v' (n + m) (xs ++ news) ∧ w.grownBy w' v.ownBlock := by
    rcases hsrc.2 with h0 | ⟨b, off, rfl, _, hc⟩
    · subst h0
      obtain rfl : news = [] := List.eq_nil_of_length_eq_zero (by simpa using hsrc.1)
      cases A with
      | none => exact ⟨v, w, run_app_none w base t o.type e i size ht hi v n xs hown c, by simpa using hown, World.grownBy.refl w _⟩
      | some ad =>
        obtain ⟨v', w', hr, h2, h3, _⟩ := run_append_own_at (P := P) w base t o.type e i z size bytes ht hi hz hsize hby hzs hsz v n xs hown ad 0 c [] (by simp) (fun j u hu => by simp at hu) h1 h63 hbytes hbase
        exact ⟨v', w', hr, h2, h3⟩
    · obtain ⟨v', w', hr, h2, h3, _⟩ := run_append_own_at (P := P) w base t o.type e i z size bytes ht hi hz hsize hby hzs hsz v n xs hown ⟨b, off, none⟩ m c news hsrc.1 (fun j u hu => by
        rw [ad_add]; exact hc j u hu) h1 h63 hbytes hbase
      exact ⟨v', w', hr, h2, h3⟩
  obtain ⟨v', w', hr, h2, h3⟩ := key
  unfold Oper.wp execOp
  simp only [ho, resolve, invoke, builtin, Sem.run_bind, Sem.run_pure, Result.andThen_ok, List.map_toArray, List.map_cons, List.map_nil, hs, hx, hr]
  exact hK _ _ (h v' w' h2 h3)
def ints (l : List Int) : List Value := l.map (fun n => .int .i64 n)
theorem ints_one (l : List Int) : ∀ u ∈ ints l, u.oneCell' = true := by
  intro u hu
  obtain ⟨n, _, rfl⟩ := List.mem_map.1 hu
  rfl
theorem ints_app (a b : List Int) : ints (a ++ b) = ints a ++ ints b := List.map_append
theorem ints_len (l : List Int) : (ints l).length = l.length := List.length_map _
theorem ints_at (l : List Int) (j : Nat) (h : j < l.length) : (ints l)[j]? = some (.int .i64 (l.getD j 0)) := by
  unfold ints
  rw [List.getElem?_map, List.getElem?_eq_getElem h, List.getD_eq_getElem?_getD, List.getElem?_eq_getElem h]; rfl
theorem DIn.src {w : World} {D : Option Addr} {ds : List Int} (h : DIn w D ds) : SrcIn w 1 D ds.length (ints ds) := by
  refine ⟨by rw [ints_len]; omega, ?_⟩
  rcases h with h | ⟨b, o, h1, h2, h3⟩
  · exact Or.inl (by rw [h]; rfl)
  · refine Or.inr ⟨b, o, h1, h2, fun j u hu => ?_⟩
    have hj : j < ds.length := by rw [← ints_len]; exact (List.getElem?_eq_some_iff.1 hu).1
    rw [ints_at ds j hj] at hu
    cases hu
    exact h3 j hj
/-- What the call owns lies as days. -/
theorem owns_days {w : World} {base n : Nat} {e : TypeId} {v : Value} {l : List Int} (h : w.ownsRow base e 1 v n (ints l)) : ∃ D c, v = .slice D l.length c ∧ DIn w D l := by
  have hn : n = l.length := by have := h.1; rw [ints_len] at this; omega
  rcases h.2 with ⟨rfl, h0⟩ | ⟨g, cap, cur, rfl, _, hg, _⟩
  · have : l = [] := List.eq_nil_of_length_eq_zero (by omega)
    subst this; exact ⟨none, 0, rfl, Or.inl rfl⟩
  · refine ⟨some ⟨g, 0, none⟩, cap, by rw [hn], Or.inr ⟨g, 0, rfl, ?_, fun j hj => ?_⟩⟩
    · exact (h.lt g rfl).2
    · have := h.cells (g := g) rfl j _ (ints_at l j hj)
      rwa [ad_add] at this
theorem infoD : (Tryd.prog.info? 3).map (fun i => (i.zero, i.size, i.bytes)) = some (some (.int .i64 0), 1, 8) := by kernel_rfl
theorem below_some {X W : World} (h : Below X.heap.size X W) : ∀ (b o : Nat) (v : Value), X.cell? ⟨b, o, none⟩ = some v → W.cell? ⟨b, o, none⟩ = some v := fun b o v hv =>
  (h.cell (p := ⟨b, o, none⟩) (World.block_lt_of_cell? X _ hv)).trans hv
theorem cell_nu {W : World} {k i : Nat} {cs : Array Value} {t : TypeId} {v : Value} (hk : k = W.heap.size) (h : cs[i]? = some v) : (W.alloc (.cells cs t)).cell? ⟨k, i, none⟩ = some v := by
  subst hk; simpa using h
theorem cell_al {W : World} {k i : Nat} {o : Obj} {v : Value} (h : W.cell? ⟨k, i, none⟩ = some v) : (W.alloc o).cell? ⟨k, i, none⟩ = some v := (World.cell?_alloc_some W _ o (by rw [h]; rfl)).trans h
theorem cell_dr {W : World} {k i : Nat} {v : Value} (h : W.cell? ⟨k, i, none⟩ = some v) : W.drew.cell? ⟨k, i, none⟩ = some v := h
theorem cell_st {X W : World} {k i : Nat} {v : Value} (hb : Below X.heap.size X W) (h : X.cell? ⟨k, i, none⟩ = some v) : W.cell? ⟨k, i, none⟩ = some v := below_some hb _ _ _ h
/-- Days that lie in a block between two numbers. -/
def DBt (w : World) (lo hi : Nat) (D : Option Addr) (ds : List Int) : Prop := ds = [] ∨ ∃ b o, D = some ⟨b, o, none⟩ ∧ lo ≤ b ∧ b < hi ∧ ∀ j, j < ds.length → w.cell? ⟨b, o + j, none⟩ = some (.int .i64 (ds.getD j 0))
theorem DBt.below {w w' : World} {lo hi : Nat} {D : Option Addr} {ds : List Int} (h : DBt w lo hi D ds) (hb : Below w.heap.size w w') : DBt w' lo hi D ds := by
  rcases h with h | ⟨b, o, h1, h2, h3, h4⟩
  · exact Or.inl h
  · exact Or.inr ⟨b, o, h1, h2, h3, fun j hj => below_some hb _ _ _ (h4 j hj)⟩
theorem DBt.set {w : World} {lo hi k i : Nat} {u : Value} {D : Option Addr} {ds : List Int} (h : DBt w lo hi D ds) (hk : k < lo ∨ hi ≤ k) : DBt (w.setCell ⟨k, i, none⟩ u) lo hi D ds := by
  rcases h with h | ⟨b, o, h1, h2, h3, h4⟩
  · exact Or.inl h
  · exact Or.inr ⟨b, o, h1, h2, h3, fun j hj => (World.cell?_setCell_other w _ _ _ (fun e => by injection e; omega)).trans (h4 j hj)⟩
theorem DBt.to {w : World} {lo hi : Nat} {D : Option Addr} {ds : List Int} (h : DBt w lo hi D ds) (hh : hi ≤ w.heap.size) : DIn w D ds := by
  rcases h with h | ⟨b, o, h1, h2, h3, h4⟩
  · exact Or.inl h
  · exact Or.inr ⟨b, o, h1, by omega, h4⟩
theorem owns_base {w : World} {base n n' c size : Nat} {e : TypeId} {A : Option Addr} {xs : List Value} (h : w.ownsRow base e size (.slice A n' c) n xs) : ∀ b o, A = some ⟨b, o, none⟩ → base ≤ b := by
  rintro b o rfl
  rcases h.2 with ⟨h0, _⟩ | ⟨g, cap, cur, hv, hb, _⟩
  · cases h0
  · cases hv; exact hb
theorem DIn.bt {w : World} {lo : Nat} {D : Option Addr} {ds : List Int} (h : DIn w D ds) (hl : ∀ b o, D = some ⟨b, o, none⟩ → lo ≤ b) : DBt w lo w.heap.size D ds := by
  rcases h with h | ⟨b, o, h1, h2, h3⟩
  · exact Or.inl h
  · exact Or.inr ⟨b, o, h1, hl b o h1, h2, h3⟩
/-! A block that is known whole. -/
theorem blk_nu {W : World} {k : Nat} {cs : Array Value} {t : TypeId} (hk : k = W.heap.size) : (W.alloc (.cells cs t)).heap[k]? = some (.cells cs t (0, 0)) := by subst hk; exact heap_alloc_new W _
theorem blk_lt {W : World} {k : Nat} {B : Obj} (h : W.heap[k]? = some B) : k < W.heap.size := (Array.getElem?_eq_some_iff.1 h).1
theorem blk_al {W : World} {k : Nat} {o B : Obj} (h : W.heap[k]? = some B) : (W.alloc o).heap[k]? = some B := (Below.heap_alloc W o k (blk_lt h)).trans h
theorem blk_dr {W : World} {k : Nat} {B : Obj} (h : W.heap[k]? = some B) : W.drew.heap[k]? = some B := h
theorem blk_st {X W : World} {k : Nat} {B : Obj} (hb : Below X.heap.size X W) (h : X.heap[k]? = some B) : W.heap[k]? = some B := (hb.block k (blk_lt h)).trans h
theorem blk_set {W : World} {k i : Nat} {u : Value} {cs : Array Value} {t : TypeId} (h : W.heap[k]? = some (.cells cs t (0, 0))) : (W.setCell ⟨k, i, none⟩ u).heap[k]? = some (.cells (cs.setIfInBounds i u) t (0, 0)) := by
  simp [World.setCell, Array.getElem?_modify, h]
theorem blk_cell {W : World} {k i : Nat} {cs : Array Value} {t : TypeId} {v : Value} (h : W.heap[k]? = some (.cells cs t (0, 0))) (hv : cs[i]? = some v) : W.cell? ⟨k, i, none⟩ = some v := by simp [World.cell?, h, hv]
theorem blk_free {W : World} {k i : Nat} {cs : Array Value} {t : TypeId} (h : W.heap[k]? = some (.cells cs t (0, 0))) : W.frozen? ⟨k, i, none⟩ = false := by simp [World.frozen?, h]
/-- What the call owns, with the room that it has. -/
theorem owns_room {w : World} {base n n' c size : Nat} {e : TypeId} {A : Option Addr} {xs : List Value} (h : w.ownsRow base e size (.slice A n' c) n xs) : n ≤ c := by
  rcases h.2 with ⟨h0, h1⟩ | ⟨g, cap, cur, hv, hb, _, hn, _⟩
  · omega
  · cases hv; exact hn
/-- One number, laid as a row of its own. -/
theorem src_one (w : World) (x : Int) (T : TypeId) : SrcIn (w.alloc (.cells #[.int .i64 x] T)) 1 (some ⟨w.heap.size, 0, none⟩) 1 [.int .i64 x] :=
  ⟨rfl, Or.inr ⟨w.heap.size, 0, rfl, by simp, fun j u hu => by
    match j, hu with
    | 0, hu => simp at hu; subst hu; simp⟩⟩
theorem int_one (x : Int) : ∀ u ∈ ([.int .i64 x] : List Value), u.oneCell' = true := by
  intro u hu
  rw [List.mem_singleton.1 hu]; rfl
theorem ints_snoc (l : List Int) (x : Int) : ints l ++ [.int .i64 x] = ints (l ++ [x]) := by rw [ints_app]; rfl
end Go.Proofs.YtjcjchapfiokeaaDoor
