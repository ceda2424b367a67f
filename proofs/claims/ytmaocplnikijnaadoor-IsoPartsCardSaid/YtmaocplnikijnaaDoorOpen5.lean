/- Arguments of five plain fields, opened. Conditions: none. -/
import Derived.Lib.SmallJoins
namespace Go.Proofs.YtmaocplnikijnaaDoor
open Go.ChangeShapes Go.WideShapes Go.RowKit Go.Deep Go.WideElems
section
variable {H : Type} {enc : TypeId × Value → H} {P : Program} {w : World} {base : Nat} {spare : Nat → Bool} {held : Bool}
theorem list5 {α : Type} {l : List α} (h : l.length = 5) : ∃ c0 c1 c2 c3 c4, l = [c0, c1, c2, c3, c4] := by
  match l, h with
  | [c0, c1, c2, c3, c4], _ => exact ⟨c0, c1, c2, c3, c4, rfl⟩
theorem open_cells5 {t : TypeId} {f0 f1 f2 f3 f4 : Field} {fuel : Nat} {cs : List Value} {x : DataW H × List MemPlace} (hs : P.underlying t = some (.struct #[f0, f1, f2, f3, f4])) (o0 : f0.offset = 0) (k0 : P.cellsOf f0.type = 1) (o1 : f1.offset = 1) (k1 : P.cellsOf f1.type = 1) (o2 : f2.offset = 2) (k2 : P.cellsOf f2.type = 1) (o3 : f3.offset = 3) (k3 : P.cellsOf f3.type = 1) (o4 : f4.offset = 4) (k4 : P.cellsOf f4.type = 1) (hC : P.cellsOf t = 5)
    (h : DataW.trod enc P w base spare held fuel t cs = some x) :
    ∃ (c0 c1 c2 c3 c4 : Value) (y0 y1 y2 y3 y4 : DataW H × List MemPlace) (n : Nat), cs = [c0, c1, c2, c3, c4] ∧ x = (.agg [y0.1, y1.1, y2.1, y3.1, y4.1], y0.2 ++ (y1.2 ++ (y2.2 ++ (y3.2 ++ (y4.2))))) ∧ DataW.trod enc P w base spare held n f0.type [c0] = some y0 ∧ DataW.trod enc P w base spare held n f1.type [c1] = some y1 ∧ DataW.trod enc P w base spare held n f2.type [c2] = some y2 ∧ DataW.trod enc P w base spare held n f3.type [c3] = some y3 ∧ DataW.trod enc P w base spare held n f4.type [c4] = some y4 := by
  obtain ⟨xs, n, _, rfl, hl, hlen, hf⟩ := DataW.trod_struct hs h
  obtain ⟨c0, c1, c2, c3, c4, rfl⟩ := list5 (hl.trans hC)
  have hlen' : xs.length = 5 := by simpa using hlen
  clear hlen
  have hx : ∃ y0 y1 y2 y3 y4, xs = [y0, y1, y2, y3, y4] := by
    match xs, hlen' with
    | [y0, y1, y2, y3, y4], _ => exact ⟨y0, y1, y2, y3, y4, rfl⟩
  obtain ⟨y0, y1, y2, y3, y4, rfl⟩ := hx
  exact ⟨c0, c1, c2, c3, c4, y0, y1, y2, y3, y4, n, rfl, by simp, by simpa [o0, k0] using hf 0 f0 rfl, by simpa [o1, k1] using hf 1 f1 rfl, by simpa [o2, k2] using hf 2 f2 rfl, by simpa [o3, k3] using hf 3 f3 rfl, by simpa [o4, k4] using hf 4 f4 rfl⟩
theorem open_agg5 {r : Reach} {b0 : Nat} {t : TypeId} {f0 f1 f2 f3 f4 : Field} {v : Value} {d : DataW H} {p : List MemPlace} (hs : P.underlying t = some (.struct #[f0, f1, f2, f3, f4])) (o0 : f0.offset = 0) (k0 : P.cellsOf f0.type = 1) (o1 : f1.offset = 1) (k1 : P.cellsOf f1.type = 1) (o2 : f2.offset = 2) (k2 : P.cellsOf f2.type = 1) (o3 : f3.offset = 3) (k3 : P.cellsOf f3.type = 1) (o4 : f4.offset = 4) (k4 : P.cellsOf f4.type = 1) (hC : P.cellsOf t = 5)
    (hv : Value.okWide P w r b0 t v) (h : DataW.Trod enc P w base spare held t v d p) :
    ∃ (c0 c1 c2 c3 c4 : Value) (y0 y1 y2 y3 y4 : DataW H × List MemPlace) (n : Nat), v = .agg #[c0, c1, c2, c3, c4] ∧ d = .agg [y0.1, y1.1, y2.1, y3.1, y4.1] ∧ p = y0.2 ++ (y1.2 ++ (y2.2 ++ (y3.2 ++ (y4.2)))) ∧ DataW.trod enc P w base spare held n f0.type [c0] = some y0 ∧ DataW.trod enc P w base spare held n f1.type [c1] = some y1 ∧ DataW.trod enc P w base spare held n f2.type [c2] = some y2 ∧ DataW.trod enc P w base spare held n f3.type [c3] = some y3 ∧ DataW.trod enc P w base spare held n f4.type [c4] = some y4 := by
  obtain ⟨as, rfl, hsz⟩ := okWide_struct hs hv
  obtain ⟨fuel, hf⟩ := h
  obtain ⟨c0, c1, c2, c3, c4, y0, y1, y2, y3, y4, n, hc, hx, hr⟩ := open_cells5 hs o0 k0 o1 k1 o2 k2 o3 k3 o4 k4 hC hf
  simp only [Prod.mk.injEq] at hx
  refine ⟨c0, c1, c2, c3, c4, y0, y1, y2, y3, y4, n, ?_, hx.1, hx.2, hr⟩
  obtain ⟨l⟩ := as
  simp only [Value.cells] at hc
  rw [hc]
end
end Go.Proofs.YtmaocplnikijnaaDoor
