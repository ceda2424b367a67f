/- The contract of the union of two calendars, the program's. Conditions: the tables of months' lengths and of the week all of whose days are off lie as the program's text lays them. -/
import Derived.Test.YtlilffoflkkbdaaDoorLaidD
import Derived.Test.YtlilffoflkkbdaaDoorCalF
import Derived.Deep.RegionHeld3
import Derived.Deep.DeepCutAuto
namespace Go.Proofs.YtlilffoflkkbdaaDoor
open Go.RowKit
set_option linter.unusedVariables false
theorem below_some {X W : World} (h : Below X.heap.size X W) : ∀ (b o : Nat) (v : Value), X.cell? ⟨b, o, none⟩ = some v → W.cell? ⟨b, o, none⟩ = some v := fun b o v hv =>
  (h.cell (p := ⟨b, o, none⟩) (World.block_lt_of_cell? X _ hv)).trans hv
theorem cell_nu {W : World} {k i : Nat} {cs : Array Value} {t : TypeId} {v : Value} (hk : k = W.heap.size) (h : cs[i]? = some v) : (W.alloc (.cells cs t)).cell? ⟨k, i, none⟩ = some v := by
  subst hk; simpa using h
theorem cell_al {W : World} {k i : Nat} {o : Obj} {v : Value} (h : W.cell? ⟨k, i, none⟩ = some v) : (W.alloc o).cell? ⟨k, i, none⟩ = some v := (World.cell?_alloc_some W _ o (by rw [h]; rfl)).trans h
theorem cell_dr {W : World} {k i : Nat} {v : Value} (h : W.cell? ⟨k, i, none⟩ = some v) : W.drew.cell? ⟨k, i, none⟩ = some v := h
theorem cell_st {X W : World} {k i : Nat} {v : Value} (hb : Below X.heap.size X W) (h : X.cell? ⟨k, i, none⟩ = some v) : W.cell? ⟨k, i, none⟩ = some v := below_some hb _ _ _ h
/-- Rules (days) that lie in a block between two numbers. -/
def RBt (w : World) (lo hi : Nat) (A : Option Addr) (rs : List R8) : Prop := rs = [] ∨ ∃ b o, A = some ⟨b, o, none⟩ ∧ lo ≤ b ∧ b < hi ∧ ∀ j, j < rs.length → ∀ i v, (rs[j]!.enc)[i]? = some v → w.cell? ⟨b, o + j * 8 + i, none⟩ = some v
def DBt (w : World) (lo hi : Nat) (D : Option Addr) (ds : List Int) : Prop := ds = [] ∨ ∃ b o, D = some ⟨b, o, none⟩ ∧ lo ≤ b ∧ b < hi ∧ ∀ j, j < ds.length → w.cell? ⟨b, o + j, none⟩ = some (.int .i64 (ds.getD j 0))
theorem RBt.below {w w' : World} {lo hi : Nat} {A : Option Addr} {rs : List R8} (h : RBt w lo hi A rs) (hb : Below w.heap.size w w') : RBt w' lo hi A rs := by
  rcases h with h | ⟨b, o, h1, h2, h3, h4⟩
  · exact Or.inl h
  · exact Or.inr ⟨b, o, h1, h2, h3, fun j hj i v hv => below_some hb _ _ _ (h4 j hj i v hv)⟩
theorem RBt.set {w : World} {lo hi k i : Nat} {u : Value} {A : Option Addr} {rs : List R8} (h : RBt w lo hi A rs) (hk : k < lo ∨ hi ≤ k) : RBt (w.setCell ⟨k, i, none⟩ u) lo hi A rs := by
  rcases h with h | ⟨b, o, h1, h2, h3, h4⟩
  · exact Or.inl h
  · exact Or.inr ⟨b, o, h1, h2, h3, fun j hj i v hv => (World.cell?_setCell_other w _ _ _ (fun e => by injection e; omega)).trans (h4 j hj i v hv)⟩
theorem DBt.below {w w' : World} {lo hi : Nat} {D : Option Addr} {ds : List Int} (h : DBt w lo hi D ds) (hb : Below w.heap.size w w') : DBt w' lo hi D ds := by
  rcases h with h | ⟨b, o, h1, h2, h3, h4⟩
  · exact Or.inl h
  · exact Or.inr ⟨b, o, h1, h2, h3, fun j hj => below_some hb _ _ _ (h4 j hj)⟩
theorem DBt.set {w : World} {lo hi k i : Nat} {u : Value} {D : Option Addr} {ds : List Int} (h : DBt w lo hi D ds) (hk : k < lo ∨ hi ≤ k) : DBt (w.setCell ⟨k, i, none⟩ u) lo hi D ds := by
  rcases h with h | ⟨b, o, h1, h2, h3, h4⟩
  · exact Or.inl h
  · exact Or.inr ⟨b, o, h1, h2, h3, fun j hj => (World.cell?_setCell_other w _ _ _ (fun e => by injection e; omega)).trans (h4 j hj)⟩
theorem RBt.to {w : World} {lo hi : Nat} {A : Option Addr} {rs : List R8} (h : RBt w lo hi A rs) (hh : hi ≤ w.heap.size) : RIn w A rs := by
  rcases h with h | ⟨b, o, h1, h2, h3, h4⟩
  · exact Or.inl h
  · exact Or.inr ⟨b, o, h1, by omega, h4⟩
theorem DBt.to {w : World} {lo hi : Nat} {D : Option Addr} {ds : List Int} (h : DBt w lo hi D ds) (hh : hi ≤ w.heap.size) : DIn w D ds := by
  rcases h with h | ⟨b, o, h1, h2, h3, h4⟩
  · exact Or.inl h
  · exact Or.inr ⟨b, o, h1, by omega, h4⟩
/-- The calendar of what is off in either. -/
def uniR (a b : CalP) (A : Option Addr) (cR : Nat) (rs : List R8) (D : Option Addr) (cD : Nat) (ds : List Int) : CalP := ⟨a.o0 || b.o0, a.o1 || b.o1, a.o2 || b.o2, a.o3 || b.o3, a.o4 || b.o4, a.o5 || b.o5, a.o6 || b.o6, A, cR, rs, D, cD, ds⟩
structure UniOf (a b u : CalP) : Prop where
  h0 : u.o0 = (a.o0 || b.o0)
  h1 : u.o1 = (a.o1 || b.o1)
  h2 : u.o2 = (a.o2 || b.o2)
  h3 : u.o3 = (a.o3 || b.o3)
  h4 : u.o4 = (a.o4 || b.o4)
  h5 : u.o5 = (a.o5 || b.o5)
  h6 : u.o6 = (a.o6 || b.o6)
  hr : u.rs = a.rs ++ b.rs
  hd : u.ds = uds a.ds b.ds
theorem owns_base {w : World} {base n n' c size : Nat} {e : TypeId} {A : Option Addr} {xs : List Value} (h : w.ownsRow base e size (.slice A n' c) n xs) : ∀ b o, A = some ⟨b, o, none⟩ → base ≤ b := by
  rintro b o rfl
  rcases h.2 with ⟨h0, _⟩ | ⟨g, cap, cur, hv, hb, _⟩
  · cases h0
  · cases hv; exact hb
theorem RIn.bt {w : World} {lo : Nat} {A : Option Addr} {rs : List R8} (h : RIn w A rs) (hl : ∀ b o, A = some ⟨b, o, none⟩ → lo ≤ b) : RBt w lo w.heap.size A rs := by
  rcases h with h | ⟨b, o, h1, h2, h3⟩
  · exact Or.inl h
  · exact Or.inr ⟨b, o, h1, hl b o h1, h2, h3⟩
theorem DIn.bt {w : World} {lo : Nat} {D : Option Addr} {ds : List Int} (h : DIn w D ds) (hl : ∀ b o, D = some ⟨b, o, none⟩ → lo ≤ b) : DBt w lo w.heap.size D ds := by
  rcases h with h | ⟨b, o, h1, h2, h3⟩
  · exact Or.inl h
  · exact Or.inr ⟨b, o, h1, hl b o h1, h2, h3⟩
theorem catRk_c (bl : Nat) (A B : Option Addr) (ca cb : Nat) (a b : List R8) (W0 w : World) (hB : Below W0.heap.size W0 w) (hbl : bl < w.heap.size) (l0 : w.cell? ⟨bl, 0, none⟩ = some (.slice A a.length ca)) (l1 : w.cell? ⟨bl, 1, none⟩ = some (.slice B b.length cb))
    (ha : RIn W0 A a) (hb : RIn W0 B b) (na : a.length ≤ 1000000) (nb : b.length ≤ 1000000) :
    Calls Tryd.prog 64 #[.slice (some ⟨bl, 0, none⟩) 2 2] w fun e w' => ∃ C c, e = .returned (.slice C (a.length + b.length) c) ∧ RBt w' w.heap.size w'.heap.size C (a ++ b) ∧ Below w.heap.size w w' ∧ Below W0.heap.size W0 w' := by
  refine (catR_c bl A B ca cb a b w hbl l0 l1 (ha.below hB) (hb.below hB) na nb).mono fun e w' ⟨v, he, hown, hb1⟩ => ?_
  rw [← List.flatMap_append] at hown
  obtain ⟨C, c, hv, hr⟩ := owns_rules hown
  rw [hv] at hown
  exact ⟨C, c, by rw [he, hv, List.length_append], hr.bt (owns_base hown), hb1, hB.trans (hb1.mono hB.size)⟩
theorem laidk_c (bl : Nat) (A B : Option Addr) (ca cb : Nat) (a b : List Int) (W0 w : World) (hB : Below W0.heap.size W0 w) (hbl : bl < w.heap.size) (l0 : w.cell? ⟨bl, 0, none⟩ = some (.slice A a.length ca)) (l1 : w.cell? ⟨bl, 1, none⟩ = some (.slice B b.length cb))
    (ha : DIn W0 A a) (hb : DIn W0 B b) (na : a.length ≤ 1000000) (nb : b.length ≤ 1000000) (lo hi : Nat) (C : Option Addr) (rs : List R8) (hr : RBt w lo hi C rs) :
    Calls Tryd.prog 65 #[.slice (some ⟨bl, 0, none⟩) 2 2] w fun e w' => ∃ D c, e = .returned (.slice D (uds a b).length c) ∧ DBt w' w.heap.size w'.heap.size D (uds a b) ∧ RBt w' lo hi C rs ∧ Below w.heap.size w w' ∧ Below W0.heap.size W0 w' := by
  refine (laid_c bl A B ca cb a b w hbl l0 l1 (ha.below hB) (hb.below hB) na nb).mono fun e w' ⟨D, c, he, hd, hl, hb1⟩ => ?_
  exact ⟨D, c, he, hd.bt hl, hr.below hb1, hb1, hB.trans (hb1.mono hB.size)⟩
/-- Rules (days) that lie from a block on, and not in another one. -/
def RAp (w : World) (lo g : Nat) (A : Option Addr) (rs : List R8) : Prop := rs = [] ∨ ∃ b o, A = some ⟨b, o, none⟩ ∧ lo ≤ b ∧ b ≠ g ∧ b < w.heap.size ∧ ∀ j, j < rs.length → ∀ i v, (rs[j]!.enc)[i]? = some v → w.cell? ⟨b, o + j * 8 + i, none⟩ = some v
def DAp (w : World) (lo g : Nat) (D : Option Addr) (ds : List Int) : Prop := ds = [] ∨ ∃ b o, D = some ⟨b, o, none⟩ ∧ lo ≤ b ∧ b ≠ g ∧ b < w.heap.size ∧ ∀ j, j < ds.length → w.cell? ⟨b, o + j, none⟩ = some (.int .i64 (ds.getD j 0))
theorem RBt.ap {w : World} {lo hi l g : Nat} {A : Option Addr} {rs : List R8} (h : RBt w lo hi A rs) (hg : g < lo ∨ hi ≤ g) (hl : l ≤ lo) (hh : hi ≤ w.heap.size) : RAp w l g A rs := by
  rcases h with h | ⟨b, o, h1, h2, h3, h4⟩
  · exact Or.inl h
  · exact Or.inr ⟨b, o, h1, by omega, by omega, by omega, h4⟩
theorem DBt.ap {w : World} {lo hi l g : Nat} {A : Option Addr} {rs : List Int} (h : DBt w lo hi A rs) (hg : g < lo ∨ hi ≤ g) (hl : l ≤ lo) (hh : hi ≤ w.heap.size) : DAp w l g A rs := by
  rcases h with h | ⟨b, o, h1, h2, h3, h4⟩
  · exact Or.inl h
  · exact Or.inr ⟨b, o, h1, by omega, by omega, by omega, h4⟩
theorem RAp.set {w : World} {lo g k i : Nat} {u : Value} {A : Option Addr} {rs : List R8} (h : RAp w lo g A rs) (hk : k = g ∨ k < lo) : RAp (w.setCell ⟨k, i, none⟩ u) lo g A rs := by
  rcases h with h | ⟨b, o, h1, h2, h3, h4, h5⟩
  · exact Or.inl h
  · exact Or.inr ⟨b, o, h1, h2, h3, by simpa using h4, fun j hj i v hv => (World.cell?_setCell_other w _ _ _ (fun e => by injection e; omega)).trans (h5 j hj i v hv)⟩
theorem DAp.set {w : World} {lo g k i : Nat} {u : Value} {A : Option Addr} {rs : List Int} (h : DAp w lo g A rs) (hk : k = g ∨ k < lo) : DAp (w.setCell ⟨k, i, none⟩ u) lo g A rs := by
  rcases h with h | ⟨b, o, h1, h2, h3, h4, h5⟩
  · exact Or.inl h
  · exact Or.inr ⟨b, o, h1, h2, h3, by simpa using h4, fun j hj => (World.cell?_setCell_other w _ _ _ (fun e => by injection e; omega)).trans (h5 j hj)⟩
theorem RAp.below {w w' : World} {lo g : Nat} {A : Option Addr} {rs : List R8} (h : RAp w lo g A rs) (hb : Below w.heap.size w w') : RAp w' lo g A rs := by
  rcases h with h | ⟨b, o, h1, h2, h3, h4, h5⟩
  · exact Or.inl h
  · exact Or.inr ⟨b, o, h1, h2, h3, Nat.lt_of_lt_of_le h4 hb.size, fun j hj i v hv => below_some hb _ _ _ (h5 j hj i v hv)⟩
theorem DAp.below {w w' : World} {lo g : Nat} {A : Option Addr} {rs : List Int} (h : DAp w lo g A rs) (hb : Below w.heap.size w w') : DAp w' lo g A rs := by
  rcases h with h | ⟨b, o, h1, h2, h3, h4, h5⟩
  · exact Or.inl h
  · exact Or.inr ⟨b, o, h1, h2, h3, Nat.lt_of_lt_of_le h4 hb.size, fun j hj => below_some hb _ _ _ (h5 j hj)⟩
theorem RAp.to {w : World} {lo g : Nat} {A : Option Addr} {rs : List R8} (h : RAp w lo g A rs) : RIn w A rs := by
  rcases h with h | ⟨b, o, h1, h2, h3, h4, h5⟩
  · exact Or.inl h
  · exact Or.inr ⟨b, o, h1, h4, h5⟩
theorem DAp.to {w : World} {lo g : Nat} {A : Option Addr} {rs : List Int} (h : DAp w lo g A rs) : DIn w A rs := by
  rcases h with h | ⟨b, o, h1, h2, h3, h4, h5⟩
  · exact Or.inl h
  · exact Or.inr ⟨b, o, h1, h4, h5⟩
/-! A block that is known whole. -/
theorem blk_nu {W : World} {k : Nat} {cs : Array Value} {t : TypeId} (hk : k = W.heap.size) : (W.alloc (.cells cs t)).heap[k]? = some (.cells cs t (0, 0)) := by subst hk; exact heap_alloc_new W _
theorem blk_lt {W : World} {k : Nat} {B : Obj} (h : W.heap[k]? = some B) : k < W.heap.size := (Array.getElem?_eq_some_iff.1 h).1
theorem blk_al {W : World} {k : Nat} {o B : Obj} (h : W.heap[k]? = some B) : (W.alloc o).heap[k]? = some B := (Below.heap_alloc W o k (blk_lt h)).trans h
theorem blk_dr {W : World} {k : Nat} {B : Obj} (h : W.heap[k]? = some B) : W.drew.heap[k]? = some B := h
theorem blk_st {X W : World} {k : Nat} {B : Obj} (hb : Below X.heap.size X W) (h : X.heap[k]? = some B) : W.heap[k]? = some B := (hb.block k (blk_lt h)).trans h
theorem blk_set {W : World} {k i : Nat} {u : Value} {cs : Array Value} {t : TypeId} (h : W.heap[k]? = some (.cells cs t (0, 0))) : (W.setCell ⟨k, i, none⟩ u).heap[k]? = some (.cells (cs.setIfInBounds i u) t (0, 0)) := by
  simp [World.setCell, Array.getElem?_modify, h]
theorem blk_cell {W : World} {k i : Nat} {cs : Array Value} {t : TypeId} {v : Value} (h : W.heap[k]? = some (.cells cs t (0, 0))) (hv : cs[i]? = some v) : W.cell? ⟨k, i, none⟩ = some v := by simp [World.cell?, h, hv]
theorem blk_free {W : World} {k i : Nat} {cs : Array Value} {t : TypeId} (h : W.heap[k]? = some (.cells cs t (0, 0))) : W.frozen? ⟨k, i, none⟩ = false := by simp [World.frozen?, h]
theorem set9 {W : World} {k : Nat} {t : TypeId} {v0 v1 v2 v3 v4 v5 v6 v7 v8 : Value} (h : W.heap[k]? = some (.cells #[.bool false, .bool false, .bool false, .bool false, .bool false, .bool false, .bool false, .slice none 0 0, .slice none 0 0] t (0, 0))) : (((((((((W.setCell ⟨k, 0, none⟩ v0).setCell ⟨k, 1, none⟩ v1).setCell ⟨k, 2, none⟩ v2).setCell ⟨k, 3, none⟩ v3).setCell ⟨k, 4, none⟩ v4).setCell ⟨k, 5, none⟩ v5).setCell ⟨k, 6, none⟩ v6).setCell ⟨k, 7, none⟩ v7).setCell ⟨k, 8, none⟩ v8).heap[k]? = some (.cells #[v0, v1, v2, v3, v4, v5, v6, v7, v8] t (0, 0)) := by
  have := blk_set (i := 8) (u := v8) (blk_set (i := 7) (u := v7) (blk_set (i := 6) (u := v6) (blk_set (i := 5) (u := v5) (blk_set (i := 4) (u := v4) (blk_set (i := 3) (u := v3) (blk_set (i := 2) (u := v2) (blk_set (i := 1) (u := v1) (blk_set (i := 0) (u := v0) h))))))))
  simpa using this
theorem RBt.set9 {W : World} {lo hi k : Nat} {A : Option Addr} {rs : List R8} {v0 v1 v2 v3 v4 v5 v6 v7 v8 : Value} (h : RBt W lo hi A rs) (hk : k < lo ∨ hi ≤ k) : RBt (((((((((W.setCell ⟨k, 0, none⟩ v0).setCell ⟨k, 1, none⟩ v1).setCell ⟨k, 2, none⟩ v2).setCell ⟨k, 3, none⟩ v3).setCell ⟨k, 4, none⟩ v4).setCell ⟨k, 5, none⟩ v5).setCell ⟨k, 6, none⟩ v6).setCell ⟨k, 7, none⟩ v7).setCell ⟨k, 8, none⟩ v8) lo hi A rs :=
  ((((((((h.set hk).set hk).set hk).set hk).set hk).set hk).set hk).set hk).set hk
theorem DBt.set9 {W : World} {lo hi k : Nat} {A : Option Addr} {rs : List Int} {v0 v1 v2 v3 v4 v5 v6 v7 v8 : Value} (h : DBt W lo hi A rs) (hk : k < lo ∨ hi ≤ k) : DBt (((((((((W.setCell ⟨k, 0, none⟩ v0).setCell ⟨k, 1, none⟩ v1).setCell ⟨k, 2, none⟩ v2).setCell ⟨k, 3, none⟩ v3).setCell ⟨k, 4, none⟩ v4).setCell ⟨k, 5, none⟩ v5).setCell ⟨k, 6, none⟩ v6).setCell ⟨k, 7, none⟩ v7).setCell ⟨k, 8, none⟩ v8) lo hi A rs :=
  ((((((((h.set hk).set hk).set hk).set hk).set hk).set hk).set hk).set hk).set hk
def UnionP (a b : CalP) (w : World) (e : Ending) (w' : World) : Prop := ∃ u : CalP, UniOf a b u ∧ CalIn w' u ∧ Below w.heap.size w w' ∧
  ((u.may = true ∧ e = .returned (.tuple #[.agg #[.bool u.o0, .bool u.o1, .bool u.o2, .bool u.o3, .bool u.o4, .bool u.o5, .bool u.o6, .slice u.A u.rs.length u.cR, .slice u.D u.ds.length u.cD], .int .i64 0])) ∨ (u.may = false ∧ e = .returned (.tuple #[.agg #[.bool false, .bool false, .bool false, .bool false, .bool false, .bool false, .bool false, .slice none 0 0, .slice none 0 0], .int .i64 1])))
/-! The weeks' loop. -/
def offk (a b : CalP) (k i : Nat) : Bool := if i < k then (a.off i || b.off i) else a.off i
def UniAt (a b : CalP) (g : Nat) (x y : Value) (k : Nat) (W : World) : Prop := ∃ cs : Array Value, W.heap[g]? = some (.cells cs 26 (0, 0)) ∧ cs.size = 9 ∧ (∀ i : Nat, i < 7 → cs[i]? = some (.bool (offk a b k i))) ∧ cs[7]? = some x ∧ cs[8]? = some y
theorem UniAt.step {a b : CalP} {g k : Nat} {x y : Value} {W : World} (h : UniAt a b g x y k W) (hk : k < 7) : UniAt a b g x y (k + 1) (W.setCell ⟨g, k, none⟩ (.bool (a.off k || b.off k))) := by
  obtain ⟨cs, h1, h2, h3, h4, h5⟩ := h
  refine ⟨_, blk_set h1, by simpa using h2, fun i hi => ?_, ?_, ?_⟩
  · rw [Array.getElem?_setIfInBounds]
    by_cases e : k = i
    · subst e
      rw [if_pos rfl, if_pos (by omega)]
      unfold offk; rw [if_pos (by omega)]
    · rw [if_neg e, h3 i hi]
      unfold offk
      by_cases hik : i < k
      · rw [if_pos hik, if_pos (by omega)]
      · rw [if_neg hik, if_neg (by omega)]
  · rw [Array.getElem?_setIfInBounds, if_neg (by omega)]; exact h4
  · rw [Array.getElem?_setIfInBounds, if_neg (by omega)]; exact h5
theorem UniAt.start {a b : CalP} {g : Nat} {x y : Value} {W : World} (h : W.heap[g]? = some (.cells #[.bool a.o0, .bool a.o1, .bool a.o2, .bool a.o3, .bool a.o4, .bool a.o5, .bool a.o6, x, y] 26 (0, 0))) : UniAt a b g x y 0 W := by
  refine ⟨_, h, rfl, fun i hi => ?_, rfl, rfl⟩
  have hk : i = 0 ∨ i = 1 ∨ i = 2 ∨ i = 3 ∨ i = 4 ∨ i = 5 ∨ i = 6 := by omega
  rcases hk with rfl | rfl | rfl | rfl | rfl | rfl | rfl <;> rfl
theorem week_at (c : CalP) (k : Nat) (h : k < 7) : (#[.bool c.o0, .bool c.o1, .bool c.o2, .bool c.o3, .bool c.o4, .bool c.o5, .bool c.o6] : Array Value)[k]? = some (.bool (c.off k)) := by
  have hk : k = 0 ∨ k = 1 ∨ k = 2 ∨ k = 3 ∨ k = 4 ∨ k = 5 ∨ k = 6 := by omega
  rcases hk with rfl | rfl | rfl | rfl | rfl | rfl | rfl <;> rfl
theorem week_run_0 (c : CalP) (W : World) : (Instr.index 22 (.agg #[.bool c.o0, .bool c.o1, .bool c.o2, .bool c.o3, .bool c.o4, .bool c.o5, .bool c.o6]) (.int .i64 (((0 : Nat)) : Int))).run Tryd.prog W = .ok (.bool c.o0) W := by kernel_rfl
theorem week_run_1 (c : CalP) (W : World) : (Instr.index 22 (.agg #[.bool c.o0, .bool c.o1, .bool c.o2, .bool c.o3, .bool c.o4, .bool c.o5, .bool c.o6]) (.int .i64 (((1 : Nat)) : Int))).run Tryd.prog W = .ok (.bool c.o1) W := by kernel_rfl
theorem week_run_2 (c : CalP) (W : World) : (Instr.index 22 (.agg #[.bool c.o0, .bool c.o1, .bool c.o2, .bool c.o3, .bool c.o4, .bool c.o5, .bool c.o6]) (.int .i64 (((2 : Nat)) : Int))).run Tryd.prog W = .ok (.bool c.o2) W := by kernel_rfl
theorem week_run_3 (c : CalP) (W : World) : (Instr.index 22 (.agg #[.bool c.o0, .bool c.o1, .bool c.o2, .bool c.o3, .bool c.o4, .bool c.o5, .bool c.o6]) (.int .i64 (((3 : Nat)) : Int))).run Tryd.prog W = .ok (.bool c.o3) W := by kernel_rfl
theorem week_run_4 (c : CalP) (W : World) : (Instr.index 22 (.agg #[.bool c.o0, .bool c.o1, .bool c.o2, .bool c.o3, .bool c.o4, .bool c.o5, .bool c.o6]) (.int .i64 (((4 : Nat)) : Int))).run Tryd.prog W = .ok (.bool c.o4) W := by kernel_rfl
theorem week_run_5 (c : CalP) (W : World) : (Instr.index 22 (.agg #[.bool c.o0, .bool c.o1, .bool c.o2, .bool c.o3, .bool c.o4, .bool c.o5, .bool c.o6]) (.int .i64 (((5 : Nat)) : Int))).run Tryd.prog W = .ok (.bool c.o5) W := by kernel_rfl
theorem week_run_6 (c : CalP) (W : World) : (Instr.index 22 (.agg #[.bool c.o0, .bool c.o1, .bool c.o2, .bool c.o3, .bool c.o4, .bool c.o5, .bool c.o6]) (.int .i64 (((6 : Nat)) : Int))).run Tryd.prog W = .ok (.bool c.o6) W := by kernel_rfl
theorem week_run (c : CalP) (k : Nat) (h : k < 7) (W : World) : (Instr.index 22 (.agg #[.bool c.o0, .bool c.o1, .bool c.o2, .bool c.o3, .bool c.o4, .bool c.o5, .bool c.o6]) (.int .i64 (k : Int))).run Tryd.prog W = .ok (.bool (c.off k)) W := by
  have hk : k = 0 ∨ k = 1 ∨ k = 2 ∨ k = 3 ∨ k = 4 ∨ k = 5 ∨ k = 6 := by omega
  rcases hk with rfl | rfl | rfl | rfl | rfl | rfl | rfl
  · exact week_run_0 c W
  · exact week_run_1 c W
  · exact week_run_2 c W
  · exact week_run_3 c W
  · exact week_run_4 c W
  · exact week_run_5 c W
  · exact week_run_6 c W
set_option maxRecDepth 100000 in
set_option maxHeartbeats 8000000 in
theorem union_c (a b : CalP) (w : World) (hL : Laid w) (hN : AllOff w) (ha : CalIn w a) (hb : CalIn w b) (na : a.rs.length ≤ 1000000) (nb : b.rs.length ≤ 1000000) (ma : a.ds.length ≤ 1000000) (mb : b.ds.length ≤ 1000000) :
    Calls Tryd.prog 37 #[.agg #[.bool a.o0, .bool a.o1, .bool a.o2, .bool a.o3, .bool a.o4, .bool a.o5, .bool a.o6, .slice a.A a.rs.length a.cR, .slice a.D a.ds.length a.cD], .agg #[.bool b.o0, .bool b.o1, .bool b.o2, .bool b.o3, .bool b.o4, .bool b.o5, .bool b.o6, .slice b.A b.rs.length b.cR, .slice b.D b.ds.length b.cD]] w (UnionP a b w) := by
  go_enter Tryd.func37, Tryd.ntmps37
  go_upto_region 1 with fail
  generalize hW : (((w.alloc (.cells #[.bool a.o0, .bool a.o1, .bool a.o2, .bool a.o3, .bool a.o4, .bool a.o5, .bool a.o6, .slice a.A a.rs.length a.cR, .slice a.D a.ds.length a.cD] 26)).alloc (.cells #[.bool b.o0, .bool b.o1, .bool b.o2, .bool b.o3, .bool b.o4, .bool b.o5, .bool b.o6, .slice b.A b.rs.length b.cR, .slice b.D b.ds.length b.cD] 26)).alloc _) = w0
  have ca0 : w0.cell? ⟨w.heap.size, 0, none⟩ = some (.bool a.o0) := by rw [← hW]; simp [World.cell?_alloc_some, go_sem]
  have ca1 : w0.cell? ⟨w.heap.size, 1, none⟩ = some (.bool a.o1) := by rw [← hW]; simp [World.cell?_alloc_some, go_sem]
  have ca2 : w0.cell? ⟨w.heap.size, 2, none⟩ = some (.bool a.o2) := by rw [← hW]; simp [World.cell?_alloc_some, go_sem]
  have ca3 : w0.cell? ⟨w.heap.size, 3, none⟩ = some (.bool a.o3) := by rw [← hW]; simp [World.cell?_alloc_some, go_sem]
  have ca4 : w0.cell? ⟨w.heap.size, 4, none⟩ = some (.bool a.o4) := by rw [← hW]; simp [World.cell?_alloc_some, go_sem]
  have ca5 : w0.cell? ⟨w.heap.size, 5, none⟩ = some (.bool a.o5) := by rw [← hW]; simp [World.cell?_alloc_some, go_sem]
  have ca6 : w0.cell? ⟨w.heap.size, 6, none⟩ = some (.bool a.o6) := by rw [← hW]; simp [World.cell?_alloc_some, go_sem]
  have ca7 : w0.cell? ⟨w.heap.size, 7, none⟩ = some (.slice a.A a.rs.length a.cR) := by rw [← hW]; simp [World.cell?_alloc_some, go_sem]
  have ca8 : w0.cell? ⟨w.heap.size, 8, none⟩ = some (.slice a.D a.ds.length a.cD) := by rw [← hW]; simp [World.cell?_alloc_some, go_sem]
  have cb7 : w0.cell? ⟨w.heap.size + 1, 7, none⟩ = some (.slice b.A b.rs.length b.cR) := by rw [← hW]; simp [World.cell?_alloc_some, go_sem]
  have cb8 : w0.cell? ⟨w.heap.size + 1, 8, none⟩ = some (.slice b.D b.ds.length b.cD) := by rw [← hW]; simp [World.cell?_alloc_some, go_sem]
  have cb0 := Lib.hid (show w0.cell? ⟨w.heap.size + 1, 0, none⟩ = some (.bool b.o0) by rw [← hW]; simp [World.cell?_alloc_some, go_sem])
  have cb1 := Lib.hid (show w0.cell? ⟨w.heap.size + 1, 1, none⟩ = some (.bool b.o1) by rw [← hW]; simp [World.cell?_alloc_some, go_sem])
  have cb2 := Lib.hid (show w0.cell? ⟨w.heap.size + 1, 2, none⟩ = some (.bool b.o2) by rw [← hW]; simp [World.cell?_alloc_some, go_sem])
  have cb3 := Lib.hid (show w0.cell? ⟨w.heap.size + 1, 3, none⟩ = some (.bool b.o3) by rw [← hW]; simp [World.cell?_alloc_some, go_sem])
  have cb4 := Lib.hid (show w0.cell? ⟨w.heap.size + 1, 4, none⟩ = some (.bool b.o4) by rw [← hW]; simp [World.cell?_alloc_some, go_sem])
  have cb5 := Lib.hid (show w0.cell? ⟨w.heap.size + 1, 5, none⟩ = some (.bool b.o5) by rw [← hW]; simp [World.cell?_alloc_some, go_sem])
  have cb6 := Lib.hid (show w0.cell? ⟨w.heap.size + 1, 6, none⟩ = some (.bool b.o6) by rw [← hW]; simp [World.cell?_alloc_some, go_sem])
  have hres := Lib.hid (show w0.heap[w.heap.size + 1 + 1]? = some (.cells #[.bool false, .bool false, .bool false, .bool false, .bool false, .bool false, .bool false, .slice none 0 0, .slice none 0 0] 26 (0, 0)) by rw [← hW]; exact blk_nu (by simp))
  have hz0 : w.heap.size + 3 ≤ w0.heap.size := by rw [← hW]; simp
  have hB0 : Below w.heap.size w w0 := by rw [← hW]; exact (((Below.refl _ _).alloc (Nat.le_refl _) _).alloc (by simp) _).alloc (by simp; omega) _
  clear hW
  have ha0 := Lib.hid (ha.below hB0); have hb0 := Lib.hid (hb.below hB0)
  have HL := Lib.hid hL; have HN := Lib.hid hN
  clear ha hb hL hN
  have hB00 : Below w0.heap.size w0 w0 := Below.refl _ _
  have HS : Hid (∀ W, Below w0.heap.size w0 W → (fun w' => Below w0.heap.size w0 w' ∧ w'.cell? ⟨w.heap.size, 0, none⟩ = some (.bool a.o0) ∧ w'.cell? ⟨w.heap.size, 1, none⟩ = some (.bool a.o1) ∧ w'.cell? ⟨w.heap.size, 2, none⟩ = some (.bool a.o2) ∧ w'.cell? ⟨w.heap.size, 3, none⟩ = some (.bool a.o3) ∧ w'.cell? ⟨w.heap.size, 4, none⟩ = some (.bool a.o4) ∧ w'.cell? ⟨w.heap.size, 5, none⟩ = some (.bool a.o5) ∧ w'.cell? ⟨w.heap.size, 6, none⟩ = some (.bool a.o6) ∧ w'.cell? ⟨w.heap.size, 7, none⟩ = some (.slice a.A a.rs.length a.cR) ∧ w'.cell? ⟨w.heap.size, 8, none⟩ = some (.slice a.D a.ds.length a.cD) ∧ w'.cell? ⟨w.heap.size + 1, 7, none⟩ = some (.slice b.A b.rs.length b.cR) ∧ w'.cell? ⟨w.heap.size + 1, 8, none⟩ = some (.slice b.D b.ds.length b.cD)) W) := Lib.hid (fun W h => ⟨h, below_some h _ _ _ ca0, below_some h _ _ _ ca1, below_some h _ _ _ ca2, below_some h _ _ _ ca3, below_some h _ _ _ ca4, below_some h _ _ _ ca5, below_some h _ _ _ ca6, below_some h _ _ _ ca7, below_some h _ _ _ ca8, below_some h _ _ _ cb7, below_some h _ _ _ cb8⟩)
  go_cut [6] (fun s6 wx => ∃ (g : Nat) (C D : Option Addr) (cc cd : Nat), s6 = .pointer (some ⟨g, 0, none⟩) ∧ w0.heap.size ≤ g ∧ wx.heap[g]? = some (.cells #[.bool a.o0, .bool a.o1, .bool a.o2, .bool a.o3, .bool a.o4, .bool a.o5, .bool a.o6, .slice C (a.rs.length + b.rs.length) cc, .slice D (uds a.ds b.ds).length cd] 26 (0, 0)) ∧ RAp wx w0.heap.size g C (a.rs ++ b.rs) ∧ DAp wx w0.heap.size g D (uds a.ds b.ds) ∧ Below w0.heap.size w0 wx)
  case first =>
    go_region_held3 (fun w' => Below w0.heap.size w0 w' ∧ w'.cell? ⟨w.heap.size, 0, none⟩ = some (.bool a.o0) ∧ w'.cell? ⟨w.heap.size, 1, none⟩ = some (.bool a.o1) ∧ w'.cell? ⟨w.heap.size, 2, none⟩ = some (.bool a.o2) ∧ w'.cell? ⟨w.heap.size, 3, none⟩ = some (.bool a.o3) ∧ w'.cell? ⟨w.heap.size, 4, none⟩ = some (.bool a.o4) ∧ w'.cell? ⟨w.heap.size, 5, none⟩ = some (.bool a.o5) ∧ w'.cell? ⟨w.heap.size, 6, none⟩ = some (.bool a.o6) ∧ w'.cell? ⟨w.heap.size, 7, none⟩ = some (.slice a.A a.rs.length a.cR) ∧ w'.cell? ⟨w.heap.size, 8, none⟩ = some (.slice a.D a.ds.length a.cD) ∧ w'.cell? ⟨w.heap.size + 1, 7, none⟩ = some (.slice b.A b.rs.length b.cR) ∧ w'.cell? ⟨w.heap.size + 1, 8, none⟩ = some (.slice b.D b.ds.length b.cD)) ((refine HS.out _ ?_; repeat (first | (with_reducible assumption) | (with_reducible exact Below.refl _ _) | (with_reducible refine Below.drew ?_) | (with_reducible refine below_drewN' ?_ _) | (with_reducible refine below_al ?_) | ((with_reducible refine below_set ?_ ?_); rotate_left; focus (first | (simp; done) | (simp; omega))))))
      (first
        | (go_at_call 64; refine (catRk_c _ _ _ a.cR b.cR a.rs b.rs w0 _ (by repeat (first | (with_reducible assumption) | (with_reducible exact Below.refl _ _) | (with_reducible refine Below.drew ?_) | (with_reducible refine below_drewN' ?_ _) | (with_reducible refine below_al ?_) | ((with_reducible refine below_set ?_ ?_); rotate_left; focus (first | (simp; done) | (simp; omega))))) (by first | omega | (simp; done) | (simp; omega)) (by repeat (first | (with_reducible assumption) | (with_reducible refine cell_dr ?_) | (refine cell_nu (by simp; done) rfl) | (with_reducible refine cell_al ?_) | (refine cell_st (by with_reducible assumption) ?_))) (by repeat (first | (with_reducible assumption) | (with_reducible refine cell_dr ?_) | (refine cell_nu (by simp; done) rfl) | (with_reducible refine cell_al ?_) | (refine cell_st (by with_reducible assumption) ?_))) ha0.out.r hb0.out.r na nb).mono ?_; rintro e wq ⟨C, cc, rfl, hr, hb1, hb2⟩; have hzq := hb1.size; (try simp at hzq); obtain ⟨hcq, hfq⟩ := bcell hb1; have hb3 := hb1; clear hb1; (try have := (by omega : w0.heap.size < wq.heap.size )); (try have := (by omega : w0.heap.size < wq.heap.size + 1)); (try have := (by omega : w0.heap.size < wq.heap.size + 1 + 1)); (try have := (by omega : w0.heap.size + 1 < wq.heap.size )); (try have := (by omega : w0.heap.size + 1 < wq.heap.size + 1)); (try have := (by omega : w0.heap.size + 1 < wq.heap.size + 1 + 1)); (try have := (by omega : w0.heap.size + 1 + 1 < wq.heap.size )); (try have := (by omega : w0.heap.size + 1 + 1 < wq.heap.size + 1)); (try have := (by omega : w0.heap.size + 1 + 1 < wq.heap.size + 1 + 1)))
        | (go_at_call 65; refine (laidk_c _ _ _ a.cD b.cD a.ds b.ds w0 _ (by repeat (first | (with_reducible assumption) | (with_reducible exact Below.refl _ _) | (with_reducible refine Below.drew ?_) | (with_reducible refine below_drewN' ?_ _) | (with_reducible refine below_al ?_) | ((with_reducible refine below_set ?_ ?_); rotate_left; focus (first | (simp; done) | (simp; omega))))) (by first | omega | (simp; done) | (simp; omega)) (by repeat (first | (with_reducible assumption) | (with_reducible refine cell_dr ?_) | (refine cell_nu (by simp; done) rfl) | (with_reducible refine cell_al ?_) | (refine cell_st (by with_reducible assumption) ?_))) (by repeat (first | (with_reducible assumption) | (with_reducible refine cell_dr ?_) | (refine cell_nu (by simp; done) rfl) | (with_reducible refine cell_al ?_) | (refine cell_st (by with_reducible assumption) ?_))) ha0.out.d hb0.out.d ma mb _ _ C (a.rs ++ b.rs) (hr.below (by repeat (first | (with_reducible assumption) | (with_reducible exact Below.refl _ _) | (with_reducible refine Below.drew ?_) | (with_reducible refine below_drewN' ?_ _) | (with_reducible refine below_al ?_) | ((with_reducible refine below_set ?_ ?_); rotate_left; focus (first | (simp; done) | (simp; omega))))))).mono ?_; rintro e wq ⟨D, cd, rfl, hd, hr2, hb1, hb2⟩; have hzq := hb1.size; (try simp at hzq); obtain ⟨hcq, hfq⟩ := bcell hb1; have hb3 := hb1; clear hb1; (try have := (by omega : w0.heap.size < wq.heap.size )); (try have := (by omega : w0.heap.size < wq.heap.size + 1)); (try have := (by omega : w0.heap.size < wq.heap.size + 1 + 1)); (try have := (by omega : w0.heap.size + 1 < wq.heap.size )); (try have := (by omega : w0.heap.size + 1 < wq.heap.size + 1)); (try have := (by omega : w0.heap.size + 1 < wq.heap.size + 1 + 1)); (try have := (by omega : w0.heap.size + 1 + 1 < wq.heap.size )); (try have := (by omega : w0.heap.size + 1 + 1 < wq.heap.size + 1)); (try have := (by omega : w0.heap.size + 1 + 1 < wq.heap.size + 1 + 1))))
    all_goals (go_wp2_with fail; go_meet; refine ⟨_, C, D, cc, cd, rfl, ?_, ?_, ?_, ?_, ?_⟩; (focus (first | omega | (simp; done) | (simp; omega))); (focus (first | (with_reducible refine blk_nu ?_; rfl) | ((with_reducible refine set9 ?_); repeat (first | (with_reducible refine blk_dr ?_) | (refine blk_nu (by simp; done)) | (with_reducible refine blk_al ?_) | (refine blk_st (by with_reducible assumption) ?_))))); (focus ((first | (with_reducible refine RBt.ap (RBt.set9 hr2 ?_) ?_ ?_ ?_) | (with_reducible refine RBt.ap (RBt.below hr2 ?_) ?_ ?_ ?_)); all_goals (first | omega | (simp; done) | (simp; omega) | (repeat (first | (with_reducible assumption) | (with_reducible exact Below.refl _ _) | (with_reducible refine Below.drew ?_) | (with_reducible refine below_drewN' ?_ _) | (with_reducible refine below_al ?_) | ((with_reducible refine below_set ?_ ?_); rotate_left; focus (first | (simp; done) | (simp; omega)))))))); (focus ((first | (with_reducible refine DBt.ap (DBt.set9 hd ?_) ?_ ?_ ?_) | (with_reducible refine DBt.ap (DBt.below hd ?_) ?_ ?_ ?_)); all_goals (first | omega | (simp; done) | (simp; omega) | (repeat (first | (with_reducible assumption) | (with_reducible exact Below.refl _ _) | (with_reducible refine Below.drew ?_) | (with_reducible refine below_drewN' ?_ _) | (with_reducible refine below_al ?_) | ((with_reducible refine below_set ?_ ?_); rotate_left; focus (first | (simp; done) | (simp; omega)))))))); repeat (first | (with_reducible assumption) | (with_reducible exact Below.refl _ _) | (with_reducible refine Below.drew ?_) | (with_reducible refine below_drewN' ?_ _) | (with_reducible refine below_al ?_) | ((with_reducible refine below_set ?_ ?_); rotate_left; focus (first | (simp; done) | (simp; omega)))))
  case rest =>
    obtain ⟨g, C, D, cc, cd, rfl, hg, hblk, hr, hd, hB⟩ := hcut
    have hBc : Below w.heap.size w wc := hB0.trans (hB.mono hB0.size)
    have hrc := Lib.hid (blk_st hB hres.out)
    have d0 := below_some hB _ _ _ cb0.out
    have d1 := below_some hB _ _ _ cb1.out
    have d2 := below_some hB _ _ _ cb2.out
    have d3 := below_some hB _ _ _ cb3.out
    have d4 := below_some hB _ _ _ cb4.out
    have d5 := below_some hB _ _ _ cb5.out
    have d6 := below_some hB _ _ _ cb6.out
    clear ca0 ca1 ca2 ca3 ca4 ca5 ca6 ca7 ca8 cb7 cb8 cb0 cb1 cb2 cb3 cb4 cb5 cb6
    have hRS : ∃ rs, a.rs ++ b.rs = rs := ⟨_, rfl⟩
    obtain ⟨rs, hrs⟩ := hRS
    have hDS : ∃ ds, uds a.ds b.ds = ds := ⟨_, rfl⟩
    obtain ⟨ds, hds⟩ := hDS
    rw [show a.rs.length + b.rs.length = rs.length by rw [← hrs, List.length_append], hds] at hblk
    rw [hrs] at hr
    rw [hds] at hd
    have HRS := Lib.hid hrs; have HDS := Lib.hid hds
    clear hrs hds HS
    have HU0 := Lib.hid (UniAt.start (b := b) hblk)
    have HR0 := Lib.hid hr; have HD0 := Lib.hid hd; have HBL0 := Lib.hid hB
    clear hblk hr hd hB hrc hBc
    go_wp2_with fail
    clear d0 d1 d2 d3 d4 d5 d6
    go_loopw [26] (fun i wr => ∃ k : Nat, k ≤ 7 ∧ i = .int .i64 k ∧ Hid (UniAt a b g (.slice C rs.length cc) (.slice D ds.length cd) k wr) ∧ Hid (RAp wr w0.heap.size g C rs) ∧ Hid (DAp wr w0.heap.size g D ds) ∧ Hid (Below w0.heap.size w0 wr)) (fun i _ => 7 - (intOf i).toNat)
    case atStart => exact ⟨0, by omega, rfl, HU0, HR0, HD0, HBL0⟩
    case round =>
      obtain ⟨k, hkk, rfl, HU, HR, HD, HBL⟩ := hrel
      clear HU0 HR0 HD0 HBL0
      by_cases hlt : k < 7
      · have hltz : (k : Int) < 7 := by omega
        have hix : ∀ W, (Instr.index 22 (.agg #[.bool b.o0, .bool b.o1, .bool b.o2, .bool b.o3, .bool b.o4, .bool b.o5, .bool b.o6]) (.int .i64 (k : Int))).run Tryd.prog W = .ok (.bool (b.off k)) W := week_run b k hlt
        have nx := HU.out.step hlt
        have nr := Lib.hid (HR.out.set (k := g) (i := k) (u := .bool (a.off k || b.off k)) (Or.inl rfl))
        have nd := Lib.hid (HD.out.set (k := g) (i := k) (u := .bool (a.off k || b.off k)) (Or.inl rfl))
        have nb := Lib.hid (below_set (p := ⟨g, k, none⟩) (u := .bool (a.off k || b.off k)) HBL.out hg)
        have NX := Lib.hid nx; clear nx
        have gc : wr.cell? ⟨g, k, none⟩ = some (.bool (a.off k)) := by
          obtain ⟨cs, h1, h2, h3, h4, h5⟩ := HU.out
          refine blk_cell h1 ((h3 k hlt).trans ?_)
          unfold offk; rw [if_neg (by omega)]
        have gf : wr.frozen? ⟨g, k, none⟩ = false := by
          obtain ⟨cs, h1, h2, h3, h4, h5⟩ := HU.out
          exact blk_free h1
        generalize a.off k = x at *
        generalize b.off k = y at *
        cases x
        · go_wp2_with fail
          go_roundw
          case rel => exact ⟨k + 1, by omega, by go_num, NX, nr, nd, nb⟩
          case measure => simp [intOf]; omega
        · go_wp2_with fail
          go_roundw
          case rel => exact ⟨k + 1, by omega, by go_num, NX, nr, nd, nb⟩
          case measure => simp [intOf]; omega
      · obtain rfl : k = 7 := by omega
        obtain ⟨cs, q1, q2, q3, q4, q5⟩ := HU.out
        have e0 : wr.cell? ⟨g, 0, none⟩ = some (.bool (a.o0 || b.o0)) := blk_cell q1 (q3 0 (by omega))
        have e1 : wr.cell? ⟨g, 1, none⟩ = some (.bool (a.o1 || b.o1)) := blk_cell q1 (q3 1 (by omega))
        have e2 : wr.cell? ⟨g, 2, none⟩ = some (.bool (a.o2 || b.o2)) := blk_cell q1 (q3 2 (by omega))
        have e3 : wr.cell? ⟨g, 3, none⟩ = some (.bool (a.o3 || b.o3)) := blk_cell q1 (q3 3 (by omega))
        have e4 : wr.cell? ⟨g, 4, none⟩ = some (.bool (a.o4 || b.o4)) := blk_cell q1 (q3 4 (by omega))
        have e5 : wr.cell? ⟨g, 5, none⟩ = some (.bool (a.o5 || b.o5)) := blk_cell q1 (q3 5 (by omega))
        have e6 : wr.cell? ⟨g, 6, none⟩ = some (.bool (a.o6 || b.o6)) := blk_cell q1 (q3 6 (by omega))
        have e7 := blk_cell q1 q4
        have e8 := blk_cell q1 q5
        clear q1 q2 q3 q4 q5
        have hBr : Below w.heap.size w wr := hB0.trans (HBL.out.mono hB0.size)
        have hCI : CalIn wr (uniR a b C cc rs D cd ds) := ⟨HR.out.to, HD.out.to⟩
        have HCI := Lib.hid hCI; clear hCI
        go_wp2_with fail
        refine (calMay_c (uniR a b C cc rs D cd ds) wr (HL.out.below hBr) (HN.out.below hBr) HCI.out).mono ?_; rintro e wN ⟨rfl, hbN⟩
        have hN0 : Below w0.heap.size w0 wN := HBL.out.trans (hbN.mono HBL.out.size)
        have hBN : Below w.heap.size w wN := hB0.trans (hN0.mono hB0.size)
        have hrc := blk_st hN0 hres.out
        have n0 := below_some hbN _ _ _ e0
        have n1 := below_some hbN _ _ _ e1
        have n2 := below_some hbN _ _ _ e2
        have n3 := below_some hbN _ _ _ e3
        have n4 := below_some hbN _ _ _ e4
        have n5 := below_some hbN _ _ _ e5
        have n6 := below_some hbN _ _ _ e6
        have n7 := below_some hbN _ _ _ e7
        have n8 := below_some hbN _ _ _ e8
        have z0 : wN.cell? ⟨w.heap.size + 1 + 1, 0, none⟩ = some (.bool false) := blk_cell hrc rfl
        have f0 : wN.frozen? ⟨w.heap.size + 1 + 1, 0, none⟩ = false := blk_free hrc
        have z1 : wN.cell? ⟨w.heap.size + 1 + 1, 1, none⟩ = some (.bool false) := blk_cell hrc rfl
        have f1 : wN.frozen? ⟨w.heap.size + 1 + 1, 1, none⟩ = false := blk_free hrc
        have z2 : wN.cell? ⟨w.heap.size + 1 + 1, 2, none⟩ = some (.bool false) := blk_cell hrc rfl
        have f2 : wN.frozen? ⟨w.heap.size + 1 + 1, 2, none⟩ = false := blk_free hrc
        have z3 : wN.cell? ⟨w.heap.size + 1 + 1, 3, none⟩ = some (.bool false) := blk_cell hrc rfl
        have f3 : wN.frozen? ⟨w.heap.size + 1 + 1, 3, none⟩ = false := blk_free hrc
        have z4 : wN.cell? ⟨w.heap.size + 1 + 1, 4, none⟩ = some (.bool false) := blk_cell hrc rfl
        have f4 : wN.frozen? ⟨w.heap.size + 1 + 1, 4, none⟩ = false := blk_free hrc
        have z5 : wN.cell? ⟨w.heap.size + 1 + 1, 5, none⟩ = some (.bool false) := blk_cell hrc rfl
        have f5 : wN.frozen? ⟨w.heap.size + 1 + 1, 5, none⟩ = false := blk_free hrc
        have z6 : wN.cell? ⟨w.heap.size + 1 + 1, 6, none⟩ = some (.bool false) := blk_cell hrc rfl
        have f6 : wN.frozen? ⟨w.heap.size + 1 + 1, 6, none⟩ = false := blk_free hrc
        have z7 : wN.cell? ⟨w.heap.size + 1 + 1, 7, none⟩ = some (.slice none 0 0) := blk_cell hrc rfl
        have f7 : wN.frozen? ⟨w.heap.size + 1 + 1, 7, none⟩ = false := blk_free hrc
        have z8 : wN.cell? ⟨w.heap.size + 1 + 1, 8, none⟩ = some (.slice none 0 0) := blk_cell hrc rfl
        have f8 : wN.frozen? ⟨w.heap.size + 1 + 1, 8, none⟩ = false := blk_free hrc
        have hs2 : w.heap.size + 1 + 1 < w0.heap.size := by omega
        have FIN : ∀ (v0 v1 v2 v3 v4 v5 v6 v7 v8 : Value), CalIn (((((((((wN.setCell ⟨w.heap.size + 1 + 1, 0, none⟩ (v0)).setCell ⟨w.heap.size + 1 + 1, 1, none⟩ (v1)).setCell ⟨w.heap.size + 1 + 1, 2, none⟩ (v2)).setCell ⟨w.heap.size + 1 + 1, 3, none⟩ (v3)).setCell ⟨w.heap.size + 1 + 1, 4, none⟩ (v4)).setCell ⟨w.heap.size + 1 + 1, 5, none⟩ (v5)).setCell ⟨w.heap.size + 1 + 1, 6, none⟩ (v6)).setCell ⟨w.heap.size + 1 + 1, 7, none⟩ (v7)).setCell ⟨w.heap.size + 1 + 1, 8, none⟩ (v8)) (uniR a b C cc rs D cd ds) := fun v0 v1 v2 v3 v4 v5 v6 v7 v8 =>
          ⟨((((((((((HR.out.below hbN).set (Or.inr hs2)).set (Or.inr hs2)).set (Or.inr hs2)).set (Or.inr hs2)).set (Or.inr hs2)).set (Or.inr hs2)).set (Or.inr hs2)).set (Or.inr hs2)).set (Or.inr hs2)).to,
           ((((((((((HD.out.below hbN).set (Or.inr hs2)).set (Or.inr hs2)).set (Or.inr hs2)).set (Or.inr hs2)).set (Or.inr hs2)).set (Or.inr hs2)).set (Or.inr hs2)).set (Or.inr hs2)).set (Or.inr hs2)).to⟩
        have FIN := Lib.hid FIN
        have UO : UniOf a b (uniR a b C cc rs D cd ds) := ⟨rfl, rfl, rfl, rfl, rfl, rfl, rfl, HRS.out.symm, HDS.out.symm⟩
        have UO := Lib.hid UO
        clear hrc e0 e1 e2 e3 e4 e5 e6 e7 e8
        cases hu : (uniR a b C cc rs D cd ds).may
        · have HUM := Lib.hid hu; clear hu
          go_wp2_with fail
          refine bodyPost_ret (v := .tuple #[.agg #[.bool false, .bool false, .bool false, .bool false, .bool false, .bool false, .bool false, .slice none 0 0, .slice none 0 0], .int .i64 1]) (by simp [results, Tryd.results37, go_sem, *]) rfl ⟨_, UO.out, FIN.out _ _ _ _ _ _ _ _ _, by repeat (first | (with_reducible assumption) | (with_reducible exact Below.refl _ _) | (with_reducible refine Below.drew ?_) | (with_reducible refine below_drewN' ?_ _) | (with_reducible refine below_al ?_) | ((with_reducible refine below_set ?_ ?_); rotate_left; focus (first | (simp; done) | (simp; omega)))), Or.inr ⟨HUM.out, rfl⟩⟩
        · have HUM := Lib.hid hu; clear hu
          go_wp2_with fail
          refine bodyPost_ret (v := .tuple #[.agg #[.bool (a.o0 || b.o0), .bool (a.o1 || b.o1), .bool (a.o2 || b.o2), .bool (a.o3 || b.o3), .bool (a.o4 || b.o4), .bool (a.o5 || b.o5), .bool (a.o6 || b.o6), .slice C rs.length cc, .slice D ds.length cd], .int .i64 0]) (by simp [results, Tryd.results37, go_sem, *]) rfl ⟨_, UO.out, FIN.out _ _ _ _ _ _ _ _ _, by repeat (first | (with_reducible assumption) | (with_reducible exact Below.refl _ _) | (with_reducible refine Below.drew ?_) | (with_reducible refine below_drewN' ?_ _) | (with_reducible refine below_al ?_) | ((with_reducible refine below_set ?_ ?_); rotate_left; focus (first | (simp; done) | (simp; omega)))), Or.inl ⟨HUM.out, rfl⟩⟩
end Go.Proofs.YtlilffoflkkbdaaDoor
