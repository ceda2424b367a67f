/- Appending inside a drawn region: to a row that the call owns, from a row that lies anywhere. Conditions: none. -/
import Derived.Test.YtjcjchapfiokeaaDoorOwn
namespace Go.Proofs.YtjcjchapfiokeaaDoor
open Go.RowKit
set_option linter.unusedVariables false
theorem wpOper_app_in {P : Program} {w : World} {o : Oper} {a : Act} {K : Act → World → Prop} {Q : Exit → Act → World → Prop} (s x : Operand) (t : TypeId)
    (ho : o.op = .call { callee := .builtin .append, args := #[s, x], argTypes := #[t, t] })
    (base : Nat) (e : TypeId) (i : TypeInfo) (z : Value) (size bytes : Nat) (ht : P.underlying t = some (.slice e)) (hi : P.info? e = some i) (hz : i.zero = some z)
    (hsize : i.size = size) (hby : i.bytes = bytes) (hzs : z.cells.size = size) (hsz : 0 < size)
    (v : Value) (n : Nat) (xs : List Value) (hs : a.eval s = v) (hown : w.ownsRow base e size v n xs)
    (A : Option Addr) (m c : Nat) (news : List Value) (hx : a.eval x = .slice A m c) (hsrc : SrcIn w size A m news) (h1 : ∀ u ∈ news, u.oneCell' = true)
    (h63 : n + m ≤ maxLen) (hbytes : (n + m) * bytes ≤ 140737488355328) (hbase : base ≤ w.heap.size)
    (h : ∀ v' w', w'.ownsRow base e size v' (n + m) (xs ++ news) → w.grownBy w' v.ownBlock → K (a.put o.dst v') w') :
    Oper.wp P o a w K Q := by
  have key : ∃ v' w', (Builtin.append_ #[t, t] o.type #[v, .slice A m c]).run P w = .ok v' w' ∧ w'.ownsRow base e size v' (n + m) (xs ++ news) ∧ w.grownBy w' v.ownBlock := by
    rcases hsrc.2 with h0 | ⟨b, off, rfl, _, hc⟩
    · subst h0
      obtain rfl : news = [] := List.eq_nil_of_length_eq_zero (by simpa using hsrc.1)
      cases A with
      | none => exact ⟨v, w, run_app_none w base t o.type e i size ht hi v n xs hown c, by simpa using hown, World.grownBy.refl w _⟩
      | some ad =>
        obtain ⟨v', w', hr, h2, h3, _⟩ := run_append_own_at (P := P) w base t o.type e i z size bytes ht hi hz hsize hby hzs hsz v n xs hown ad 0 c [] (by simp) (fun j u hu => by simp at hu) h1 h63 hbytes hbase
        exact ⟨v', w', hr, h2, h3⟩
    · obtain ⟨v', w', hr, h2, h3, _⟩ := run_append_own_at (P := P) w base t o.type e i z size bytes ht hi hz hsize hby hzs hsz v n xs hown ⟨b, off, none⟩ m c news hsrc.1 (fun j u hu => by
        rw [ad_add]; exact hc j u hu) h1 h63 hbytes hbase
      exact ⟨v', w', hr, h2, h3⟩
  obtain ⟨v', w', hr, h2, h3⟩ := key
  unfold Oper.wp execOp
  simp only [ho, resolve, invoke, builtin, Sem.run_bind, Sem.run_pure, Result.andThen_ok, List.map_toArray, List.map_cons, List.map_nil, hs, hx, hr]
  exact h v' w' h2 h3
theorem blk_off {W : World} {k g q : Nat} {v : Value} {B : Obj} (hne : g ≠ k) (h : W.heap[k]? = some B) : (W.setCell ⟨g, q, none⟩ v).heap[k]? = some B := by
  simp [World.setCell, Array.getElem?_modify, hne, h]
end Go.Proofs.YtjcjchapfiokeaaDoor
