/- The walk of IsoParts, first part: what its parts are. Conditions: the table of months' lengths lies as the program's text lays it. -/
import Derived.Test.YtmaocplnikijnaaDoorLawIBack
import Derived.IntWalk
namespace Go.Proofs.YtmaocplnikijnaaDoor
open Go.RowKit
set_option linter.unusedVariables false
theorem pad_t (n k : Int) (h : 0 ≤ n) (h' : n ≤ 9999) (hk : k = 4 ∨ k = 2) (w : World) : Calls Tryd.prog 32 #[.int .i64 n, .int .i64 k] w fun e w' => e = .returned (.string ⟨(Iso.digs k.toNat n).toArray⟩) ∧ Below w.heap.size w w' := by
  rcases hk with rfl | rfl
  · exact pad4_t n h h' w
  · exact pad2_t n h h' w
theorem conv_c (c : Int) (b : Nat) (W : World) (h : W.cell? ⟨b, 0, none⟩ = some (.int .u8 c)) : (convert 59 9 (.slice (some ⟨b, 0, none⟩) 1 1)).run Tryd.prog W = .ok (.string (strOfNums [c])) W :=
  run_convert_bytes_arg W 59 5 Tryd.underlying59 Tryd.underlying5 b 0 1 1 [c] rfl (fun j hj => by
    have hk : j = 0 := by omega
    subst hk; simpa using h) 9 Tryd.underlying9
namespace Iso
/-- The text with another sign at a place. -/
def tSet (p q r : Int) (i : Nat) (c : Int) : List UInt8 := (text p q r).set i (UInt8.ofNat c.toNat)
theorem set_split : ∀ (l : List UInt8) (i : Nat) (c : UInt8), i < l.length → l.take i ++ [c] ++ l.drop (i + 1) = l.set i c
  | [], i, c, h => by simp at h
  | x :: l, 0, c, _ => rfl
  | x :: l, i + 1, c, h => by
    have := set_split l i c (by simpa using h)
    simp only [List.take_succ_cons, List.drop_succ_cons, List.set_cons_succ, List.cons_append]
    rw [← this]
theorem app_set (p q r : Int) (i : Nat) (c : Int) (hi : i < 10) : ((((⟨(text p q r).toArray⟩ : ByteArray).extract 0 i) ++ strOfNums [c]) ++ ((⟨(text p q r).toArray⟩ : ByteArray).extract (i + 1) 10)) = ⟨(tSet p q r i c).toArray⟩ := by
  have h1 : (⟨(text p q r).toArray⟩ : ByteArray).extract 0 i = ⟨((text p q r).take i).toArray⟩ := by rw [ByteArray.extract_mk]; simp
  have h2 : (⟨(text p q r).toArray⟩ : ByteArray).extract (i + 1) 10 = ⟨((text p q r).drop (i + 1)).toArray⟩ := by
    rw [ByteArray.extract_mk, List.take_of_length_le (by rw [List.length_drop, text_length]; omega)]
  rw [h1, h2]
  have h3 : strOfNums [c] = ⟨[UInt8.ofNat c.toNat].toArray⟩ := rfl
  rw [h3, str_app, str_app, tSet, ← set_split _ i _ (by rw [text_length]; exact hi)]
  simp
theorem okC_c {i : Nat} {c : Int} (h1 : 0 ≤ c) (h2 : c ≤ 255) : ((UInt8.ofNat c.toNat).toNat : Int) = c := by
  rw [UInt8.toNat_ofNat']; omega
theorem sh_no' {l : List UInt8} (c : shB l = false) : rdV l = 0 ∧ rdE l = 10 := by
  unfold rdV rdE
  rw [if_neg (by rw [c]; decide), if_neg (by rw [c]; decide)]; exact ⟨rfl, rfl⟩
theorem tSet_no {p q r : Int} {i : Nat} {c : Int} (hi : i < 10) (h : okC i (UInt8.ofNat c.toNat) = false) : rdV (tSet p q r i c) = 0 ∧ rdE (tSet p q r i c) = 10 := by
  have := sh_set (text_sh p q r) i (UInt8.ofNat c.toNat) hi
  rw [h] at this
  exact sh_no' this
theorem tSet_yes {p q r : Int} {i : Nat} {c : Int} (hi : i < 10) (h : okC i (UInt8.ofNat c.toNat) = true) : rdE (tSet p q r i c) = 0 ∨ rdE (tSet p q r i c) = 3 := by
  have this : shB (tSet p q r i c) = okC i (UInt8.ofNat c.toNat) := sh_set (text_sh p q r) i (UInt8.ofNat c.toNat) hi
  rw [h] at this
  rcases rdE_cases (tSet p q r i c) with g | g | g
  · exact Or.inl g
  · exact Or.inr g
  · rw [(rdE_form _).1 g] at this; cases this
end Iso
theorem conv_fact (c : Int) : ∀ (b : Nat) (W : World), W.cell? ⟨b, 0, none⟩ = some (.int .u8 c) → (convert 59 9 (.slice (some ⟨b, 0, none⟩) 1 1)).run Tryd.prog W = .ok (.string (strOfNums [c])) W := fun b W h => conv_c c b W h
theorem txt_size (p q r : Int) : (⟨(Iso.text p q r).toArray⟩ : ByteArray).size = 10 := rfl
end Go.Proofs.YtmaocplnikijnaaDoor
