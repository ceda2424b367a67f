/- The contracts of the library's search by a predicate, at rules and at days. Conditions: the predicate's own contract at each element. -/
import Derived.Test.YtlilffoflkkbdaaDoorCald
import Derived.Deep.LoopGhost
import Derived.Outline
namespace Go.Proofs.YtlilffoflkkbdaaDoor
open Go.RowKit
set_option linter.unusedVariables false

theorem any_hit {α : Type} [Inhabited α] (p : α → Bool) (zs : List α) (k : Nat) (hk : k < zs.length) (h : p zs[k]! = true) : zs.any p = true := by
  rw [List.any_eq_true]
  refine ⟨zs[k]!, ?_, h⟩
  rw [getElem!_pos zs k hk]; exact List.getElem_mem hk
theorem any_miss {α : Type} [Inhabited α] (p : α → Bool) (zs : List α) (h : ∀ j, j < zs.length → p zs[j]! = false) : zs.any p = false := by
  rw [List.any_eq_false]
  intro x hx
  obtain ⟨i, hi, rfl⟩ := List.getElem_of_mem hx
  have := h i hi
  rw [getElem!_pos zs i hi] at this
  simp [this]
def FoundAt {α : Type} (p : α → Bool) (zs : List α) (w : World) (e : Ending) (w' : World) : Prop := ∃ r : Int, e = .returned (.int .i64 r) ∧ decide (0 ≤ r) = zs.any p ∧ Below w.heap.size w w'
set_option maxHeartbeats 2000000 in
theorem indexR_c (p : R8 → Bool) (g : Nat) (lb : Array Value) (eg : ∀ args w, (callFunc g args).run Tryd.prog w = .ok (.enter g args) w) (b off c : Nat) (zs : List R8) (w : World)
    (hp : ∀ (W : World) (x : R8), x ∈ zs → Below w.heap.size w W → Calls Tryd.prog g (#[(.agg #[.int .i64 x.kd, .int .i64 x.mo, .int .i64 x.da, .int .i64 x.kk, .int .i64 x.off, .int .i64 x.sh, .int .i64 x.fr, .int .i64 x.to])] ++ lb) W fun e w' => e = .returned (.bool (p x)) ∧ Below w.heap.size w w')
    (hbig : zs.length ≤ 9223372036854775807) (hb : b < w.heap.size) (hc : ∀ j, j < zs.length → ∀ i v, (zs[j]!.enc)[i]? = some v → w.cell? ⟨b, off + j * 8 + i, none⟩ = some v) :
    Calls Tryd.prog 72 #[.slice (some ⟨b, off, none⟩) zs.length c, .func (.func g) #[] lb] w (FoundAt p zs w) := by
  have hrow : ∀ (W : World), Below w.heap.size w W → ∀ j, j < zs.length → ∀ i v, (zs[j]!.enc)[i]? = some v → W.cell? ⟨b, off + j * 8 + i, none⟩ = some v := fun W hW j hj i v hi => (hW.cell (p := ⟨b, off + j * 8 + i, none⟩) hb).trans (hc j hj i v hi)
  clear hc
  go_enter Tryd.func72, Tryd.ntmps72
  go_wp2_with fail
  go_loopg [5, 8] zs.length (fun gg _ s8 wr => ∃ kk : Nat, kk ≤ zs.length ∧ zs.length - kk ≤ gg ∧ s8 = .int .i64 kk ∧ Hid (Below w.heap.size w wr) ∧ Hid (∀ j, j < kk → p zs[j]! = false))
  case atStart => exact ⟨0, Nat.zero_le _, by omega, rfl, Below.refl _ w, fun j hj => absurd hj (Nat.not_lt_zero _)⟩
  case round =>
    obtain ⟨kk, hkk, hg, rfl, BW, A⟩ := hrel
    by_cases hlt : kk < zs.length
    · have hltz : (kk : Int) < (zs.length : Int) := by omega
      have l2 := hrow wr BW.out kk hlt
      have hcall := hp wr zs[kk]! (by rw [getElem!_pos zs kk hlt]; exact List.getElem_mem hlt) BW.out
      clear hrow hp
      generalize hy : zs[kk]! = y at l2 hcall
      have g0 : wr.cell? ⟨b, off + kk * 8, none⟩ = some (.int .i64 y.kd) := l2 0 _ rfl
      have g1 : wr.cell? ⟨b, off + kk * 8 + 1, none⟩ = some (.int .i64 y.mo) := l2 1 _ rfl
      have g2 : wr.cell? ⟨b, off + kk * 8 + 2, none⟩ = some (.int .i64 y.da) := l2 2 _ rfl
      have g3 : wr.cell? ⟨b, off + kk * 8 + 3, none⟩ = some (.int .i64 y.kk) := l2 3 _ rfl
      have g4 : wr.cell? ⟨b, off + kk * 8 + 4, none⟩ = some (.int .i64 y.off) := l2 4 _ rfl
      have g5 : wr.cell? ⟨b, off + kk * 8 + 5, none⟩ = some (.int .i64 y.sh) := l2 5 _ rfl
      have g6 : wr.cell? ⟨b, off + kk * 8 + 6, none⟩ = some (.int .i64 y.fr) := l2 6 _ rfl
      have g7 : wr.cell? ⟨b, off + kk * 8 + 7, none⟩ = some (.int .i64 y.to) := l2 7 _ rfl
      clear l2
      have B : Hid (zs[kk]! = y) := Lib.hid hy
      clear hy
      cases hq : p y with
      | true =>
        rw [hq] at hcall
        have HC := Lib.hid hcall; clear hcall
        go_wp2_with fail
        refine HC.out.mono ?_; rintro e w' ⟨rfl, hb'⟩
        go_wp2_with fail
        go_ret
        exact ⟨_, rfl, by rw [any_hit p zs kk hlt (by rw [B.out]; exact hq)]; exact decide_eq_true (by omega), hb'⟩
      | false =>
        rw [hq] at hcall
        have HC := Lib.hid hcall; clear hcall
        go_wp2_with fail
        refine HC.out.mono ?_; rintro e w' ⟨rfl, hb'⟩
        go_wp2_with fail
        go_roundg (zs.length - (kk + 1))
        case measure => omega
        case rel =>
          refine ⟨kk + 1, by omega, by omega, by go_num, hb', (show Hid _ from fun j hj => ?_)⟩
          by_cases e : j = kk
          · subst e; rw [B.out]; exact hq
          · exact A.out j (by omega)
    · have hltz : ¬ (kk : Int) < (zs.length : Int) := by omega
      have hke : kk = zs.length := by omega
      subst hke
      go_wp2_with fail
      go_ret
      exact ⟨_, rfl, by rw [any_miss p zs A.out]; rfl, BW.out⟩
theorem indexR_nil (p : R8 → Bool) (a : Option Addr) (c : Nat) (fv : Value) (w : World) : Calls Tryd.prog 72 #[.slice a 0 c, fv] w (FoundAt p ([] : List R8) w) := by
  go_enter Tryd.func72, Tryd.ntmps72
  go_wp2_with fail
  refine wp_loop_rounds 1 ?_
  rw [rounds_succ]
  go_wp2_with fail
  go_ret
  exact ⟨_, rfl, rfl, Below.refl _ _⟩
theorem anyR_c (p : R8 → Bool) (g : Nat) (lb : Array Value) (eg : ∀ args w, (callFunc g args).run Tryd.prog w = .ok (.enter g args) w) (b off c : Nat) (zs : List R8) (w : World)
    (hp : ∀ (W : World) (x : R8), x ∈ zs → Below w.heap.size w W → Calls Tryd.prog g (#[(.agg #[.int .i64 x.kd, .int .i64 x.mo, .int .i64 x.da, .int .i64 x.kk, .int .i64 x.off, .int .i64 x.sh, .int .i64 x.fr, .int .i64 x.to])] ++ lb) W fun e w' => e = .returned (.bool (p x)) ∧ Below w.heap.size w w')
    (hbig : zs.length ≤ 9223372036854775807) (hb : b < w.heap.size) (hc : ∀ j, j < zs.length → ∀ i v, (zs[j]!.enc)[i]? = some v → w.cell? ⟨b, off + j * 8 + i, none⟩ = some v) :
    Calls Tryd.prog 53 #[.slice (some ⟨b, off, none⟩) zs.length c, .func (.func g) #[] lb] w fun e w' => e = .returned (.bool (zs.any p)) ∧ Below w.heap.size w w' := by
  have HI := Lib.hid (indexR_c p g lb eg b off c zs w hp hbig hb hc)
  clear hc hp eg
  go_enter Tryd.func53, Tryd.ntmps53
  go_wp2_with fail
  refine HI.out.mono ?_; rintro e w' ⟨r, rfl, hr, hb'⟩
  have HR := Lib.hid hr; clear hr HI
  go_wp2_with fail
  go_ret
  exact ⟨by rw [← HR.out] <;> rfl, hb'⟩
theorem anyR_nil (p : R8 → Bool) (a : Option Addr) (c : Nat) (fv : Value) (w : World) : Calls Tryd.prog 53 #[.slice a 0 c, fv] w fun e w' => e = .returned (.bool false) ∧ Below w.heap.size w w' := by
  have HI := Lib.hid (indexR_nil p a c fv w)
  go_enter Tryd.func53, Tryd.ntmps53
  go_wp2_with fail
  refine HI.out.mono ?_; rintro e w' ⟨r, rfl, hr, hb'⟩
  have HR := Lib.hid hr; clear hr HI
  go_wp2_with fail
  go_ret
  exact ⟨by rw [HR.out] <;> rfl, hb'⟩
set_option maxHeartbeats 2000000 in
theorem indexD_c (p : Int → Bool) (g : Nat) (lb : Array Value) (eg : ∀ args w, (callFunc g args).run Tryd.prog w = .ok (.enter g args) w) (b off c : Nat) (zs : List Int) (w : World)
    (hp : ∀ (W : World) (x : Int), x ∈ zs → Below w.heap.size w W → Calls Tryd.prog g (#[(.int .i64 x)] ++ lb) W fun e w' => e = .returned (.bool (p x)) ∧ Below w.heap.size w w')
    (hbig : zs.length ≤ 9223372036854775807) (hb : b < w.heap.size) (hc : ∀ j, j < zs.length → w.cell? ⟨b, off + j, none⟩ = some (.int .i64 zs[j]!)) :
    Calls Tryd.prog 74 #[.slice (some ⟨b, off, none⟩) zs.length c, .func (.func g) #[] lb] w (FoundAt p zs w) := by
  have hrow : ∀ (W : World), Below w.heap.size w W → ∀ j, j < zs.length → W.cell? ⟨b, off + j, none⟩ = some (.int .i64 zs[j]!) := fun W hW j hj => (hW.cell (p := ⟨b, off + j, none⟩) hb).trans (hc j hj)
  clear hc
  go_enter Tryd.func74, Tryd.ntmps74
  go_wp2_with fail
  go_loopg [5, 8] zs.length (fun gg _ s8 wr => ∃ kk : Nat, kk ≤ zs.length ∧ zs.length - kk ≤ gg ∧ s8 = .int .i64 kk ∧ Hid (Below w.heap.size w wr) ∧ Hid (∀ j, j < kk → p zs[j]! = false))
  case atStart => exact ⟨0, Nat.zero_le _, by omega, rfl, Below.refl _ w, fun j hj => absurd hj (Nat.not_lt_zero _)⟩
  case round =>
    obtain ⟨kk, hkk, hg, rfl, BW, A⟩ := hrel
    by_cases hlt : kk < zs.length
    · have hltz : (kk : Int) < (zs.length : Int) := by omega
      have l2 := hrow wr BW.out kk hlt
      have hcall := hp wr zs[kk]! (by rw [getElem!_pos zs kk hlt]; exact List.getElem_mem hlt) BW.out
      clear hrow hp
      generalize hy : zs[kk]! = y at l2 hcall
      have B : Hid (zs[kk]! = y) := Lib.hid hy
      clear hy
      cases hq : p y with
      | true =>
        rw [hq] at hcall
        have HC := Lib.hid hcall; clear hcall
        go_wp2_with fail
        refine HC.out.mono ?_; rintro e w' ⟨rfl, hb'⟩
        go_wp2_with fail
        go_ret
        exact ⟨_, rfl, by rw [any_hit p zs kk hlt (by rw [B.out]; exact hq)]; exact decide_eq_true (by omega), hb'⟩
      | false =>
        rw [hq] at hcall
        have HC := Lib.hid hcall; clear hcall
        go_wp2_with fail
        refine HC.out.mono ?_; rintro e w' ⟨rfl, hb'⟩
        go_wp2_with fail
        go_roundg (zs.length - (kk + 1))
        case measure => omega
        case rel =>
          refine ⟨kk + 1, by omega, by omega, by go_num, hb', (show Hid _ from fun j hj => ?_)⟩
          by_cases e : j = kk
          · subst e; rw [B.out]; exact hq
          · exact A.out j (by omega)
    · have hltz : ¬ (kk : Int) < (zs.length : Int) := by omega
      have hke : kk = zs.length := by omega
      subst hke
      go_wp2_with fail
      go_ret
      exact ⟨_, rfl, by rw [any_miss p zs A.out]; rfl, BW.out⟩
theorem indexD_nil (p : Int → Bool) (a : Option Addr) (c : Nat) (fv : Value) (w : World) : Calls Tryd.prog 74 #[.slice a 0 c, fv] w (FoundAt p ([] : List Int) w) := by
  go_enter Tryd.func74, Tryd.ntmps74
  go_wp2_with fail
  refine wp_loop_rounds 1 ?_
  rw [rounds_succ]
  go_wp2_with fail
  go_ret
  exact ⟨_, rfl, rfl, Below.refl _ _⟩
theorem anyD_c (p : Int → Bool) (g : Nat) (lb : Array Value) (eg : ∀ args w, (callFunc g args).run Tryd.prog w = .ok (.enter g args) w) (b off c : Nat) (zs : List Int) (w : World)
    (hp : ∀ (W : World) (x : Int), x ∈ zs → Below w.heap.size w W → Calls Tryd.prog g (#[(.int .i64 x)] ++ lb) W fun e w' => e = .returned (.bool (p x)) ∧ Below w.heap.size w w')
    (hbig : zs.length ≤ 9223372036854775807) (hb : b < w.heap.size) (hc : ∀ j, j < zs.length → w.cell? ⟨b, off + j, none⟩ = some (.int .i64 zs[j]!)) :
    Calls Tryd.prog 56 #[.slice (some ⟨b, off, none⟩) zs.length c, .func (.func g) #[] lb] w fun e w' => e = .returned (.bool (zs.any p)) ∧ Below w.heap.size w w' := by
  have HI := Lib.hid (indexD_c p g lb eg b off c zs w hp hbig hb hc)
  clear hc hp eg
  go_enter Tryd.func56, Tryd.ntmps56
  go_wp2_with fail
  refine HI.out.mono ?_; rintro e w' ⟨r, rfl, hr, hb'⟩
  have HR := Lib.hid hr; clear hr HI
  go_wp2_with fail
  go_ret
  exact ⟨by rw [← HR.out] <;> rfl, hb'⟩
theorem anyD_nil (p : Int → Bool) (a : Option Addr) (c : Nat) (fv : Value) (w : World) : Calls Tryd.prog 56 #[.slice a 0 c, fv] w fun e w' => e = .returned (.bool false) ∧ Below w.heap.size w w' := by
  have HI := Lib.hid (indexD_nil p a c fv w)
  go_enter Tryd.func56, Tryd.ntmps56
  go_wp2_with fail
  refine HI.out.mono ?_; rintro e w' ⟨r, rfl, hr, hb'⟩
  have HR := Lib.hid hr; clear hr HI
  go_wp2_with fail
  go_ret
  exact ⟨by rw [HR.out] <;> rfl, hb'⟩
end Go.Proofs.YtlilffoflkkbdaaDoor
