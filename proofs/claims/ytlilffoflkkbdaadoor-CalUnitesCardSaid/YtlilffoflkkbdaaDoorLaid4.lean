/- From the listed tables of the layers of calendars and rolls to their cells: the ways' names, and the week all of whose days are off. Conditions: none. -/
import Derived.Test.YtlilffoflkkbdaaDoorFrame
import Derived.ChangeArms
namespace Go.Proofs.YtlilffoflkkbdaaDoor
open Go.ChangeShapes Go.WideShapes Go.ChangeAt Go.RowKit
set_option linter.unusedVariables false

theorem trod_arr {H : Type} {enc : TypeId × Value → H} {P : Program} {w : World} {base : Nat} {sp : Nat → Bool} {held : Bool} {fuel : Nat} {t e : TypeId} {n : Nat} {cs : List Value} {ds : List (DataW H)} {p : List MemPlace}
    (ht : P.underlying t = some (.array n e)) (hce : P.cellsOf e = 1) (hct : P.cellsOf t = n) (F : DataW H → Value)
    (hF : ∀ fuel' c d q, DataW.trod enc P w base sp held fuel' e [c] = some (d, q) → c = F d) (hone : ∀ fuel' cs' x, DataW.trod enc P w base sp held fuel' e cs' = some x → ∃ c, cs' = [c])
    (h : DataW.trod enc P w base sp held fuel t cs = some (.agg ds, p)) : cs = ds.map F := by
  cases fuel with
  | zero => simp [DataW.trod] at h
  | succ fuel =>
    simp only [DataW.trod, ht, hce, hct, Nat.mul_one] at h
    split at h
    · rename_i hl
      obtain ⟨xs, hm, hx⟩ := Option.map_eq_some_iff.1 h
      have hxs : xs.map (·.1) = ds := by
        have := congrArg Prod.fst hx
        simpa using this
      have hxl : xs.length = n := by simpa using Lib.mapM_length hm
      have hzl : ds.length = n := by rw [← hxs]; simpa using hxl
      apply List.ext_getElem?
      intro i
      by_cases hi : i < n
      · obtain ⟨b, hb, hf⟩ := Lib.mapM_at hm i i (by simp [hi])
        obtain ⟨c, hc⟩ := hone _ _ _ hf
        rw [hc] at hf
        have e1 := hF _ _ _ _ (show DataW.trod enc P w base sp held _ e [c] = some (b.1, b.2) from hf)
        have h1 : cs[i]? = some c := by
          have := congrArg (·[0]?) hc
          simpa [List.getElem?_take, List.getElem?_drop] using this
        have h2 : ds[i]? = some b.1 := by rw [← hxs]; simp [hb]
        rw [h1, List.getElem?_map, h2, e1]; rfl
      · rw [List.getElem?_eq_none (by omega), List.getElem?_eq_none (by simp; omega)]
    · cases h
theorem laid_second {P : Program} {W : World} {a b : String} {d1 d2 : DataW Unit} {rest : List (String × DataW Unit)} (h : laidMet P ((a, d1) :: (b, d2) :: rest) W) :
    ∃ g t cs fuel p, P.globalNamed b = some g ∧ (P.globals[g]?).map (·.type) = some t ∧ W.var? P b = some cs.toArray ∧ DataW.trod (fun _ => ()) P W 0 (fun _ => true) false fuel t cs = some (d2, p) := by
  obtain ⟨ps, h1, _⟩ := h
  obtain ⟨_, _, _, _, _, _, _, _, _, _, h2, _⟩ := h1
  obtain ⟨g, t, cs, fuel, p, q, k1, k2, k3, k4, _, _⟩ := h2
  exact ⟨g, t, cs.toList, fuel, p, k1, k2, by simpa using k3, k4⟩
def fStr : DataW Unit → Value
  | .lit (.string l) => .string ⟨l.toArray⟩
  | _ => default
def fBool : DataW Unit → Value
  | .lit (.bool b) => .bool b
  | _ => default
/-- The ways' names. -/
def nms : List ByteArray := [⟨#[110, 111, 110, 101]⟩, ⟨#[102, 111, 108, 108, 111, 119, 105, 110, 103]⟩, ⟨#[109, 111, 100, 102, 111, 108, 108, 111, 119, 105, 110, 103]⟩, ⟨#[112, 114, 101, 99, 101, 100, 105, 110, 103]⟩, ⟨#[109, 111, 100, 112, 114, 101, 99, 101, 100, 105, 110, 103]⟩]
structure Named (w : World) : Prop where
  cell : ∀ i : Nat, i < 5 → w.cell? ⟨0, i, none⟩ = some (.string (nms.getD i ByteArray.empty))
  size : 0 < w.heap.size
theorem Named.below {w w' : World} (h : Named w) (hb : Below w.heap.size w w') : Named w' :=
  ⟨fun i hi => (hb.cell (p := ⟨0, i, none⟩) h.size).trans (h.cell i hi), Nat.lt_of_lt_of_le h.size hb.size⟩
structure AllOff (w : World) : Prop where
  cell : ∀ i : Nat, i < 7 → w.cell? ⟨1, i, none⟩ = some (.bool true)
  size : 1 < w.heap.size
theorem AllOff.below {w w' : World} (h : AllOff w) (hb : Below w.heap.size w w') : AllOff w' :=
  ⟨fun i hi => (hb.cell (p := ⟨1, i, none⟩) h.size).trans (h.cell i hi), Nat.lt_of_lt_of_le h.size hb.size⟩
theorem gNames : Tryd.prog.globalNamed "demurrage/roll.names" = some 0 := by kernel_rfl
theorem gNamesType : (Tryd.prog.globals[0]?).map (·.type) = some 90 := by kernel_rfl
theorem cellsNames : Tryd.prog.cellsOf 90 = 5 := by kernel_rfl
theorem cellsStr : Tryd.prog.cellsOf 9 = 1 := by kernel_rfl
theorem gNone : Tryd.prog.globalNamed "demurrage/cal.none" = some 1 := by kernel_rfl
theorem gNoneType : (Tryd.prog.globals[1]?).map (·.type) = some 92 := by kernel_rfl
theorem cellsNone : Tryd.prog.cellsOf 92 = 7 := by kernel_rfl
theorem cellsBool : Tryd.prog.cellsOf 4 = 1 := by kernel_rfl
theorem named_of {W : World} {rest : List (String × DataW Unit)} (h : laidMet Tryd.prog (("demurrage/civil.lengths", Rows.laid_demurrage_civil_lengths) :: ("demurrage/roll.names", Rows.laid_demurrage_roll_names) :: rest) W) : Named W := by
  obtain ⟨g, t, cs, fuel, p, k1, k2, k3, k4⟩ := laid_second h
  obtain rfl := Option.some.inj (gNames.symm.trans k1)
  obtain rfl := Option.some.inj (gNamesType.symm.trans k2)
  have e := trod_arr (ds := [.lit (.string [110, 111, 110, 101]), .lit (.string [102, 111, 108, 108, 111, 119, 105, 110, 103]), .lit (.string [109, 111, 100, 102, 111, 108, 108, 111, 119, 105, 110, 103]), .lit (.string [112, 114, 101, 99, 101, 100, 105, 110, 103]), .lit (.string [109, 111, 100, 112, 114, 101, 99, 101, 100, 105, 110, 103])]) Tryd.underlying90 cellsStr cellsNames fStr
    (fun f c d q hq => by obtain ⟨s, h1, h2, _⟩ := DataW.trod_string Tryd.underlying9 hq; cases h1; cases h2; rfl)
    (fun f cs' x hq => by obtain ⟨s, h1, _⟩ := DataW.trod_string Tryd.underlying9 hq; exact ⟨_, h1⟩) k4
  have hc : ∀ i : Nat, i < 5 → W.cell? ⟨0, i, none⟩ = some (.string (nms.getD i ByteArray.empty)) := by
    intro i hi
    have := World.var?_cell gNames k3 i
    rw [this, e]
    have hk : i = 0 ∨ i = 1 ∨ i = 2 ∨ i = 3 ∨ i = 4 := by omega
    rcases hk with rfl | rfl | rfl | rfl | rfl <;> rfl
  exact ⟨hc, World.block_lt_of_cell? W _ (hc 0 (by decide))⟩
theorem allOff_of {W : World} {rest : List (String × DataW Unit)} (h : laidMet Tryd.prog (("demurrage/civil.lengths", Rows.laid_demurrage_civil_lengths) :: ("demurrage/cal.none", Rows.laid_demurrage_cal_none) :: rest) W) : AllOff W := by
  obtain ⟨g, t, cs, fuel, p, k1, k2, k3, k4⟩ := laid_second h
  obtain rfl := Option.some.inj (gNone.symm.trans k1)
  obtain rfl := Option.some.inj (gNoneType.symm.trans k2)
  have e := trod_arr (ds := List.replicate 7 (.lit (.bool true))) Tryd.underlying92 cellsBool cellsNone fBool
    (fun f c d q hq => by obtain ⟨s, h1, h2⟩ := DataW.trod_bool Tryd.underlying4 hq; cases h1; cases h2; rfl)
    (fun f cs' x hq => by obtain ⟨s, h1, _⟩ := DataW.trod_bool Tryd.underlying4 hq; exact ⟨_, h1⟩) k4
  have hc : ∀ i : Nat, i < 7 → W.cell? ⟨1, i, none⟩ = some (.bool true) := by
    intro i hi
    have := World.var?_cell gNone k3 i
    rw [this, e]
    have hk : i = 0 ∨ i = 1 ∨ i = 2 ∨ i = 3 ∨ i = 4 ∨ i = 5 ∨ i = 6 := by omega
    rcases hk with rfl | rfl | rfl | rfl | rfl | rfl | rfl <;> rfl
  exact ⟨hc, World.block_lt_of_cell? W _ (hc 0 (by decide))⟩
theorem laid_head {W : World} {rest : List (String × DataW Unit)} (h : laidMet Tryd.prog (("demurrage/civil.lengths", Rows.laid_demurrage_civil_lengths) :: rest) W) : Laid W := by
  have T : Lib.TabIs Tryd.prog W "demurrage/civil.lengths" .i64 [0, 31, 28, 31, 30, 31, 30, 31, 31, 30, 31, 30, 31] :=
    Lib.tabIs_of_head (rest := rest) gTab gTabType Tryd.underlying115 Tryd.underlying3 cellsInt cellsTab h
  have hc : ∀ i : Nat, i < 13 → W.cell? ⟨2, i, none⟩ = some (.int .i64 (mlen i)) := by
    intro i hi
    have := T.cell gTab i hi
    rw [this]
    have hk : i = 0 ∨ i = 1 ∨ i = 2 ∨ i = 3 ∨ i = 4 ∨ i = 5 ∨ i = 6 ∨ i = 7 ∨ i = 8 ∨ i = 9 ∨ i = 10 ∨ i = 11 ∨ i = 12 := by omega
    rcases hk with rfl | rfl | rfl | rfl | rfl | rfl | rfl | rfl | rfl | rfl | rfl | rfl | rfl <;> rfl
  exact ⟨hc, World.block_lt_of_cell? W _ (hc 0 (by decide))⟩
end Go.Proofs.YtlilffoflkkbdaaDoor
