/- Calendars, plainly: with other rules, with a day of the week more that is off. Conditions: none. -/
import Derived.Test.YtlilffoflkkbdaaDoorCalW
namespace Go.Proofs.YtlilffoflkkbdaaDoor
open Go.RowKit
set_option linter.unusedVariables false
/-- The same calendar with other rules. -/
def CalP.withR (c : CalP) (A : Option Addr) (cR : Nat) (rs : List R8) : CalP := ⟨c.o0, c.o1, c.o2, c.o3, c.o4, c.o5, c.o6, A, cR, rs, c.D, c.cD, c.ds⟩
theorem withR_is (c : CalP) (A : Option Addr) (cR : Nat) (rs : List R8) (n : Int) (h : rs.any (·.is n) = c.rs.any (·.is n)) : (c.withR A cR rs).is n = c.is n := by
  unfold CalP.is CalP.withR
  show (dayB n && (!CalP.off c (Cal.wd n) && (!c.ds.contains n && !rs.any (·.is n)))) = _
  rw [h]
theorem withR_more (c : CalP) (A : Option Addr) (cR : Nat) (r : R8) (n : Int) : (c.withR A cR (c.rs ++ [r])).is n = (c.is n && !r.is n) := by
  unfold CalP.is CalP.withR
  show (dayB n && (!CalP.off c (Cal.wd n) && (!c.ds.contains n && !(c.rs ++ [r]).any (·.is n)))) = _
  rw [List.any_append]
  cases dayB n <;> cases c.off (Cal.wd n) <;> cases c.ds.contains n <;> cases c.rs.any (·.is n) <;> cases h : r.is n <;> simp [h]
theorem withR_may {c : CalP} (A : Option Addr) (cR : Nat) {rs : List R8} (hc : c.may = true) (hl : rs.length ≤ 100) (hr : ∀ r ∈ rs, r.may = true) : (c.withR A cR rs).may = true := by
  obtain ⟨h1, h2, h3, h4, h5, h6⟩ := CalP.may_iff.1 hc
  exact CalP.may_iff.2 ⟨h1, hl, h3, hr, h5, h6⟩
/-- The same calendar with a day of the week more that is off. -/
def CalP.offK (c : CalP) (k : Nat) : CalP := ⟨k == 0 || c.o0, k == 1 || c.o1, k == 2 || c.o2, k == 3 || c.o3, k == 4 || c.o4, k == 5 || c.o5, k == 6 || c.o6, c.A, c.cR, c.rs, c.D, c.cD, c.ds⟩
theorem offK_off (c : CalP) (k : Nat) (n : Int) (h : k < 7) (h1 : 0 ≤ n) (h2 : n ≤ 6) : (c.offK k).off n = ((n == (k : Int)) || c.off n) := by
  have hk : k = 0 ∨ k = 1 ∨ k = 2 ∨ k = 3 ∨ k = 4 ∨ k = 5 ∨ k = 6 := by omega
  have hn : n = 0 ∨ n = 1 ∨ n = 2 ∨ n = 3 ∨ n = 4 ∨ n = 5 ∨ n = 6 := by omega
  rcases hk with rfl | rfl | rfl | rfl | rfl | rfl | rfl <;> rcases hn with rfl | rfl | rfl | rfl | rfl | rfl | rfl <;> rfl
theorem offK_is (c : CalP) (k : Nat) (n : Int) (h : k < 7) : (c.offK k).is n = (c.is n && Cal.wd n != (k : Int)) := by
  have hb := Cal.wd_bd n
  unfold CalP.is
  rw [offK_off c k _ h hb.1 hb.2]
  show (dayB n && (!(Cal.wd n == (k : Int) || c.off (Cal.wd n)) && (!c.ds.contains n && !c.rs.any (·.is n)))) = _
  unfold bne
  cases dayB n <;> cases c.off (Cal.wd n) <;> cases c.ds.contains n <;> cases c.rs.any (·.is n) <;> cases (Cal.wd n == (k : Int)) <;> rfl
theorem offK_in {c : CalP} {w : World} (k : Nat) (h : CalIn w c) : CalIn w (c.offK k) := ⟨h.r, h.d⟩
theorem offK_ok {c : CalP} (k : Nat) (h : CalOk c) : CalOk (c.offK k) := ⟨h.rs, h.ds, h.rl, h.dl⟩
/-- Two rules that have changed places. -/
def swp (rs : List R8) (x y : Nat) : List R8 := (rs.set x rs[y]!).set y rs[x]!
theorem swp_len (rs : List R8) (x y : Nat) : (swp rs x y).length = rs.length := by unfold swp; simp
theorem get_set (rs : List R8) (x j : Nat) (r : R8) (hj : j < rs.length) : (rs.set x r)[j]! = if x = j then r else rs[j]! := by
  rw [getElem!_pos (rs.set x r) j (by simpa using hj), getElem!_pos rs j hj, List.getElem_set]
theorem swp_at (rs : List R8) (x y j : Nat) (hj : j < rs.length) : (swp rs x y)[j]! = if y = j then rs[x]! else if x = j then rs[y]! else rs[j]! := by
  unfold swp
  rw [get_set _ _ _ _ (by simpa using hj), get_set _ _ _ _ hj]
theorem mem_at {rs : List R8} {r : R8} : r ∈ rs ↔ ∃ j, j < rs.length ∧ rs[j]! = r := by
  constructor
  · intro h
    obtain ⟨j, hj, rfl⟩ := List.getElem_of_mem h
    exact ⟨j, hj, getElem!_pos rs j hj⟩
  · rintro ⟨j, hj, rfl⟩
    rw [getElem!_pos rs j hj]; exact List.getElem_mem hj
theorem mem_swp (rs : List R8) (x y : Nat) (hx : x < rs.length) (hy : y < rs.length) (r : R8) : r ∈ swp rs x y ↔ r ∈ rs := by
  rw [mem_at, mem_at, swp_len]
  constructor
  · rintro ⟨j, hj, h⟩
    rw [swp_at rs x y j hj] at h
    split at h
    · exact ⟨x, hx, h⟩
    · split at h
      · exact ⟨y, hy, h⟩
      · exact ⟨j, hj, h⟩
  · rintro ⟨j, hj, h⟩
    by_cases e1 : j = x
    · refine ⟨y, hy, ?_⟩
      rw [swp_at rs x y y hy, if_pos rfl, ← e1]; exact h
    · by_cases e2 : j = y
      · refine ⟨x, hx, ?_⟩
        rw [swp_at rs x y x hx]
        by_cases e3 : y = x
        · exact absurd (e2.trans e3) e1
        · rw [if_neg e3, if_pos rfl, ← e2]; exact h
      · exact ⟨j, hj, by rw [swp_at rs x y j hj, if_neg (fun e => e2 e.symm), if_neg (fun e => e1 e.symm)]; exact h⟩
theorem any_mem {p : R8 → Bool} {l m : List R8} (h : ∀ r, r ∈ l ↔ r ∈ m) : l.any p = m.any p := by
  rw [Bool.eq_iff_iff, List.any_eq_true, List.any_eq_true]
  exact ⟨fun ⟨r, h1, h2⟩ => ⟨r, (h r).1 h1, h2⟩, fun ⟨r, h1, h2⟩ => ⟨r, (h r).2 h1, h2⟩⟩
theorem mem_more (rs : List R8) (x : Nat) (hx : x < rs.length) (r : R8) : r ∈ rs ++ [rs[x]!] ↔ r ∈ rs := by
  rw [List.mem_append, List.mem_singleton]
  constructor
  · rintro (h | h)
    · exact h
    · rw [h]; exact mem_at.2 ⟨x, hx, rfl⟩
  · exact Or.inl
/-! Appending inside a drawn region: to a row that the call owns, from a row that lies anywhere. -/
theorem wpOper_app_in {P : Program} {w : World} {o : Oper} {a : Act} {K : Act → World → Prop} {Q : Exit → Act → World → Prop} (s x : Operand) (t : TypeId)
    (ho : o.op = .call { callee := .builtin .append, args := #[s, x], argTypes := #[t, t] })
    (base : Nat) (e : TypeId) (i : TypeInfo) (z : Value) (size bytes : Nat) (ht : P.underlying t = some (.slice e)) (hi : P.info? e = some i) (hz : i.zero = some z)
    (hsize : i.size = size) (hby : i.bytes = bytes) (hzs : z.cells.size = size) (hsz : 0 < size)
    (v : Value) (n : Nat) (xs : List Value) (hs : a.eval s = v) (hown : w.ownsRow base e size v n xs)
    (A : Option Addr) (m c : Nat) (news : List Value) (hx : a.eval x = .slice A m c) (hsrc : SrcIn w size A m news) (h1 : ∀ u ∈ news, u.oneCell' = true)
    (h63 : n + m ≤ maxLen) (hbytes : (n + m) * bytes ≤ 140737488355328) (hbase : base ≤ w.heap.size)
    (h : ∀ v' w', w'.ownsRow base e size v' (n + m) (xs ++ news) → w.grownBy w' v.ownBlock → K (a.put o.dst v') w') :
    Oper.wp P o a w K Q := by
  have key : ∃ v' w', (Builtin.append_ #[t, t] o.type #[v, .slice A m c]).run P w = .ok v' w' ∧ w'.ownsRow base e size v' (n + m) (xs ++ news) ∧ w.grownBy w' v.ownBlock := by
    rcases hsrc.2 with h0 | ⟨b, off, rfl, _, hc⟩
    · subst h0
      obtain rfl : news = [] := List.eq_nil_of_length_eq_zero (by simpa using hsrc.1)
      cases A with
      | none => exact ⟨v, w, run_app_none w base t o.type e i size ht hi v n xs hown c, by simpa using hown, World.grownBy.refl w _⟩
      | some ad =>
        obtain ⟨v', w', hr, h2, h3, _⟩ := run_append_own_at (P := P) w base t o.type e i z size bytes ht hi hz hsize hby hzs hsz v n xs hown ad 0 c [] (by simp) (fun j u hu => by simp at hu) h1 h63 hbytes hbase
        exact ⟨v', w', hr, h2, h3⟩
    · obtain ⟨v', w', hr, h2, h3, _⟩ := run_append_own_at (P := P) w base t o.type e i z size bytes ht hi hz hsize hby hzs hsz v n xs hown ⟨b, off, none⟩ m c news hsrc.1 (fun j u hu => by
        rw [ad_add]; exact hc j u hu) h1 h63 hbytes hbase
      exact ⟨v', w', hr, h2, h3⟩
  obtain ⟨v', w', hr, h2, h3⟩ := key
  unfold Oper.wp execOp
  simp only [ho, resolve, invoke, builtin, Sem.run_bind, Sem.run_pure, Result.andThen_ok, List.map_toArray, List.map_cons, List.map_nil, hs, hx, hr]
  exact h v' w' h2 h3
/-- A block without cells is a row of its own. -/
theorem own_nil {W : World} {G : Nat} {T : TypeId} {B s : Nat} (h : W.heap[G]? = some (.cells #[] T (0, 0))) (hB : B ≤ G) : W.ownsRow B T s (.slice (some ⟨G, 0, none⟩) 0 0) 0 [] :=
  ⟨by simp, Or.inr ⟨G, 0, #[], rfl, hB, h, Nat.le_refl _, Nat.zero_le _, by simp, by simp⟩⟩
/-- A block is the source of what is appended. -/
theorem src_blk {W : World} {H : Nat} {cs : Array Value} {T : TypeId} {s m : Nat} (h : W.heap[H]? = some (.cells cs T (0, 0))) (hs : cs.size = m * s) : SrcIn W s (some ⟨H, 0, none⟩) m cs.toList := by
  refine ⟨by simpa using hs, Or.inr ⟨H, 0, rfl, blk_lt h, fun j u hu => ?_⟩⟩
  exact blk_cell h (by simpa using hu)
/-- What an append leaves of the other blocks. -/
theorem blk_gr {X W : World} {own : Option Nat} {k : Nat} {B : Obj} (hg : X.grownBy W own) (hne : own ≠ some k) (h : X.heap[k]? = some B) : W.heap[k]? = some B :=
  (hg.block k (blk_lt h) (fun e => hne e.symm)).trans h
/-- What an append owns lies from the base on. -/
theorem owns_any {w : World} {base n size : Nat} {e : TypeId} {v : Value} {xs : List Value} (h : w.ownsRow base e size v n xs) : ∃ A c, v = .slice A n c := by
  rcases h.2 with ⟨rfl, rfl⟩ | ⟨g, cap, cur, rfl, _⟩
  · exact ⟨_, _, rfl⟩
  · exact ⟨_, _, rfl⟩
theorem own_of {X W : World} {base n size : Nat} {e : TypeId} {v : Value} {xs : List Value} (h : X.ownsRow base e size v n xs) (hh : ∀ (k : Nat) (B : Obj), X.heap[k]? = some B → W.heap[k]? = some B) : W.ownsRow base e size v n xs := by
  refine ⟨h.1, ?_⟩
  rcases h.2 with ⟨h1, h2⟩ | ⟨g, cap, cur, h1, h2, h3, h4⟩
  · exact Or.inl ⟨h1, h2⟩
  · exact Or.inr ⟨g, cap, cur, h1, h2, hh _ _ h3, h4⟩
theorem enc_size (r : R8) : r.enc.toArray.size = 1 * 8 := rfl
end Go.Proofs.YtlilffoflkkbdaaDoor
