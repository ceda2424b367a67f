/- Numbers of any size, the document's: a part, a number of 64 bits, noughts taken off, two compared. Conditions: sizes far below the machine's. -/
import Derived.Test.YtjcjchapfiokeaaDoorOwn
import Derived.Test.YtjcjchapfiokeaaDoorBig
import Derived.IntWalk
namespace Go.Proofs.YtjcjchapfiokeaaDoor
open Go.RowKit
set_option linter.unusedVariables false
def pt (n i : Nat) : Int := ((n / 10000 ^ i % 10000 : Nat) : Int)
theorem pt_bd (n i : Nat) : 0 ≤ pt n i ∧ pt n i < 10000 := by unfold pt; omega
theorem pt_at (n i : Nat) : (dg n).getD i 0 = pt n i := dg_at n i
theorem pt_high {n i : Nat} (h : (dg n).length ≤ i) : pt n i = 0 := by unfold pt; rw [dg_high h]; rfl
def BigRet (n : Nat) (w : World) (e : Ending) (w' : World) : Prop := ∃ (A : Option Addr) (c : Nat), e = .returned (.agg #[.slice A (dg n).length c]) ∧ DBt w' w.heap.size w'.heap.size A (dg n) ∧ Below w.heap.size w w'
set_option maxHeartbeats 2000000 in
theorem bpart_lo (b o c n i l : Nat) (x : Int) (hlt : i < l) (hl : l ≤ 1000000) (w : World) (hb : b < w.heap.size) (g : w.cell? ⟨b, o + i, none⟩ = some (.int .i64 x)) :
    Calls Tryd.prog 87 #[.agg #[.slice (some ⟨b, o, none⟩) l c], .int .i64 (i : Int)] w fun e w' => e = .returned (.int .i64 x) ∧ Below w.heap.size w w' := by
  have hB : Below w.heap.size w w := Below.refl _ _
  have hltz : (i : Int) < (l : Int) := by omega
  have hd := decide_eq_true hltz
  go_enter Tryd.func87, Tryd.ntmps87
  go_wp2_with fail
  go_ret
  exact ⟨rfl, by repeat (first | assumption | exact Below.refl _ _ | (with_reducible refine Below.drew ?_) | (with_reducible refine below_drewN' ?_ _) | (with_reducible refine below_al ?_) | ((with_reducible refine below_set ?_ ?_); rotate_left; focus (first | (simp; done) | (simp; omega))))⟩
theorem bpart_hi (A : Option Addr) (c i l : Nat) (hlt : l ≤ i) (w : World) :
    Calls Tryd.prog 87 #[.agg #[.slice A l c], .int .i64 (i : Int)] w fun e w' => e = .returned (.int .i64 0) ∧ Below w.heap.size w w' := by
  have hB : Below w.heap.size w w := Below.refl _ _
  have hltz : ¬ (i : Int) < (l : Int) := by omega
  have hd := decide_eq_false hltz
  go_enter Tryd.func87, Tryd.ntmps87
  go_wp2_with fail
  go_ret
  exact ⟨rfl, by repeat (first | assumption | exact Below.refl _ _ | (with_reducible refine Below.drew ?_) | (with_reducible refine below_drewN' ?_ _) | (with_reducible refine below_al ?_) | ((with_reducible refine below_set ?_ ?_); rotate_left; focus (first | (simp; done) | (simp; omega))))⟩
theorem bpart_c (A : Option Addr) (c n i l : Nat) (x : Int) (hll : Hid ((dg n).length = l)) (hx : Hid (pt n i = x)) (hl : l ≤ 1000000) (w : World) (h : DIn w A (dg n)) :
    Calls Tryd.prog 87 #[.agg #[.slice A l c], .int .i64 (i : Int)] w fun e w' => e = .returned (.int .i64 x) ∧ Below w.heap.size w w' := by
  by_cases hlt : i < l
  · rcases h with h | ⟨b, o, rfl, hb, hc⟩
    · have := hll.out; rw [h] at this; simp at this; omega
    · have g := hc i (by rw [hll.out]; exact hlt)
      rw [pt_at, hx.out] at g
      exact bpart_lo b o c n i l x hlt hl w hb g
  · rw [← hx.out, pt_high (by rw [hll.out]; omega)]
    exact bpart_hi A c i l (by omega) w
theorem DBt.wide {w : World} {lo hi lo' hi' : Nat} {D : Option Addr} {ds : List Int} (h : DBt w lo hi D ds) (h1 : lo' ≤ lo) (h2 : hi ≤ hi') : DBt w lo' hi' D ds := by
  rcases h with h | ⟨b, o, e1, e2, e3, e4⟩
  · exact Or.inl h
  · exact Or.inr ⟨b, o, e1, by omega, by omega, e4⟩
theorem box_in (w : World) (k : Nat) (cs : Array Value) (T : TypeId) (v : Value) (hk : k = w.heap.size) (h : cs[0]? = some v) : (w.alloc (.cells cs T)).cell? ⟨k, 0, none⟩ = some v ∧ (w.alloc (.cells cs T)).frozen? ⟨k, 0, none⟩ = false :=
  ⟨cell_nu hk h, blk_free (blk_nu hk)⟩
set_option maxRecDepth 100000 in
set_option maxHeartbeats 4000000 in
theorem fromU_c (n : Nat) (hn : n < 18446744073709551616) (w : World) : Calls Tryd.prog 85 #[.int .u64 (n : Int)] w (BigRet n w) := by
  obtain ⟨i0, hi0, hz0, hs0, hb0⟩ := info_parts infoD
  have HL : Hid ((dg n).length ≤ 5) := Lib.hid (dg_le (by omega))
  go_enter Tryd.func85, Tryd.ntmps85
  go_wp2_with fail
  have hB0 : Below w.heap.size w (w.alloc (.cells #[.slice none 0 0] 102)) := (Below.refl _ _).alloc (Nat.le_refl _) _
  have hx0 := box_in w w.heap.size #[.slice none 0 0] 102 _ rfl rfl
  have hsz : (w.alloc (.cells #[.slice none 0 0] 102)).heap.size = w.heap.size + 1 := by simp
  generalize w.alloc (.cells #[.slice none 0 0] 102) = w0 at *
  go_loopw [0, 3] (fun x v wr => ∃ (m : Nat) (out : List Int), x = .int .u64 (m : Int) ∧ m < 18446744073709551616 ∧ Hid (out ++ dg m = dg n) ∧ Hid (wr.ownsRow w0.heap.size 3 1 v out.length (ints out)) ∧ Hid (Below w0.heap.size w0 wr)) (fun x _ _ => (intOf x).toNat)
  case atStart => exact ⟨n, [], rfl, hn, Lib.hid rfl, Lib.hid (World.ownsRow_nil _ _ _ _), Lib.hid (Below.refl _ _)⟩
  case round =>
    obtain ⟨m, out, rfl, hm, hO, hown, hBr⟩ := hrel
    have hl : out.length ≤ 5 := by have h1 := congrArg List.length hO.out; rw [List.length_append] at h1; have := HL.out; omega
    have hzr := hBr.out.size
    by_cases h0 : 0 < m
    · have hd : decide ((0 : Int) < (m : Int)) = true := decide_eq_true (by omega)
      have hO2 : Hid ((out ++ [((m % 10000 : Nat) : Int)]) ++ dg (m / 10000) = dg n) := Lib.hid (by rw [← hO.out, dg_pos h0, List.append_assoc]; rfl)
      have hr : (m : Int).tmod 10000 = ((m % 10000 : Nat) : Int) := by rw [Int.tmod_eq_emod_of_nonneg (by omega)]; omega
      have hq : (m : Int).tdiv 10000 = ((m / 10000 : Nat) : Int) := by rw [Int.tdiv_eq_ediv_of_nonneg (by omega)]; omega
      have hqm : m / 10000 < m := by omega
      have hw : IntKind.i64.wrap ((m % 10000 : Nat) : Int) = ((m % 10000 : Nat) : Int) := IntWalk.i64_in _ (by omega)
      generalize m % 10000 = r at *
      generalize m / 10000 = q at *
      go_wp2_with (at_builtin; refine wpList_app_in rfl (.tmp 6) (.tmp 10) _ rfl w0.heap.size 3 i0 _ 1 8 Tryd.underlying100 hi0 hz0 hs0 hb0 (by rfl) (by decide) _ out.length (ints out) rfl (hown.out.alloc _) (some ⟨wr.heap.size, 0, none⟩) 1 1 [.int .i64 (r : Int)] rfl (src_one _ _ _) (int_one _) (by unfold maxLen; omega) (by omega) (by simp; omega) ?_; intro v1 w1 hown1 hg1)
      have hB1 : Hid (Below w0.heap.size w0 w1) := Lib.hid ((below_al hBr.out).grown hg1 (by simp; omega) (fun k hk => (hown.out.lt k hk).1))
      have hown2 : Hid (w1.ownsRow w0.heap.size 3 1 v1 (out ++ [(r : Int)]).length (ints (out ++ [(r : Int)]))) := Lib.hid (by rw [List.length_append, ← ints_snoc]; exact hown1)
      go_roundw
      case rel => exact ⟨q, out ++ [(r : Int)], rfl, by omega, hO2, hown2, hB1⟩
      case measure => simp [intOf]; omega
    · obtain rfl : m = 0 := by omega
      have hOe : out = dg n := by have := hO.out; rwa [dg_zero, List.append_nil] at this
      subst hOe
      obtain ⟨D, c, rfl, hD⟩ := owns_days hown.out
      have hDB := (hD.bt (owns_base hown.out))
      have HD := Lib.hid hDB
      have hc2 := (hBr.out.cell (p := ⟨w.heap.size, 0, none⟩) (by simp; omega)).trans hx0.1
      have hf2 := (hBr.out.frozen (p := ⟨w.heap.size, 0, none⟩) (by simp; omega)).trans hx0.2
      have HB1 := Lib.hid (below_step (w := w) hBr.out hB0)
      clear hDB hD
      go_wp2_with fail
      refine bodyPost_ret (v := .agg #[.slice D (dg n).length c]) (by simp [results, Tryd.results85, go_sem, hc2]) rfl ?_
      exact ⟨D, c, rfl, (HD.out.set (Or.inl (by omega))).wide (by omega) (by simp), below_set HB1.out (Nat.le_refl _)⟩
theorem T1 (W : World) {a : Addr} (v : Value) {u : Value} (h : W.cell? a = some u) : (W.setCell a v).cell? a = some v := World.cell?_setCell_same' W a v (by rw [h]; rfl)
theorem own_empty (W : World) (T : TypeId) (B : Nat) (hB : B ≤ W.heap.size) : (W.alloc (.cells #[] T)).ownsRow B T 1 (.slice (some ⟨W.heap.size, 0, none⟩) 0 0) 0 [] :=
  ⟨rfl, Or.inr ⟨W.heap.size, 0, #[], rfl, hB, heap_alloc_new W _, Nat.le_refl _, Nat.zero_le _, rfl, rfl⟩⟩
theorem src_take {w : World} {b o : Nat} {l : List Int} (hb : b < w.heap.size) (h : ∀ j, j < l.length → w.cell? ⟨b, o + j, none⟩ = some (.int .i64 (l.getD j 0))) (k : Nat) (hk : k ≤ l.length) : SrcIn w 1 (some ⟨b, o, none⟩) k (ints (l.take k)) := by
  refine ⟨by rw [ints_len, List.length_take]; omega, Or.inr ⟨b, o, rfl, hb, fun j u hu => ?_⟩⟩
  have hj : j < (l.take k).length := by rw [← ints_len]; exact (List.getElem?_eq_some_iff.1 hu).1
  have hj2 : j < k := by rw [List.length_take] at hj; omega
  rw [ints_at _ j hj] at hu
  cases hu
  rw [h j (by omega), List.getD_eq_getElem?_getD, List.getD_eq_getElem?_getD, List.getElem?_take_of_lt hj2]
theorem get_at {w : World} {b o : Nat} {l : List Int} (h : ∀ j, j < l.length → w.cell? ⟨b, o + j, none⟩ = some (.int .i64 (l.getD j 0))) (k : Nat) (hk : k < l.length) (T : TypeId) (cs : Array Value) : (w.alloc (.cells cs T)).cell? ⟨b, o + k, none⟩ = some (.int .i64 (l.getD k 0)) := cell_al (h k hk)
set_option maxRecDepth 100000 in
set_option maxHeartbeats 4000000 in
theorem trim_at (b o c : Nat) (l : List Int) (hp : Hid (PartL l)) (hcap : l.length ≤ c) (hlen : l.length ≤ 100000) (w : World) (hb : b < w.heap.size) (h : ∀ j, j < l.length → w.cell? ⟨b, o + j, none⟩ = some (.int .i64 (l.getD j 0))) :
    Calls Tryd.prog 88 #[.slice (some ⟨b, o, none⟩) l.length c] w (BigRet (vl l).toNat w) := by
  obtain ⟨i0, hi0, hz0, hs0, hb0⟩ := info_parts infoD
  go_enter Tryd.func88, Tryd.ntmps88
  go_wp2_with fail
  have hB0 : Below w.heap.size w (w.alloc (.cells #[.slice none 0 0] 102)) := (Below.refl _ _).alloc (Nat.le_refl _) _
  have hx0 := box_in w w.heap.size #[.slice none 0 0] 102 _ rfl rfl
  have hsz : (w.alloc (.cells #[.slice none 0 0] 102)).heap.size = w.heap.size + 1 := by simp
  have H0 := Lib.hid (fun j hj => get_at h j hj 102 #[.slice none 0 0])
  clear h
  generalize w.alloc (.cells #[.slice none 0 0] 102) = w0 at *
  go_loopw [3] (fun x wr => ∃ k : Nat, k ≤ l.length ∧ x = .int .i64 k ∧ wr = w0 ∧ Hid (∀ j, k ≤ j → j < l.length → l.getD j 0 = 0)) (fun x _ => (intOf x).toNat)
  case atStart => exact ⟨l.length, Nat.le_refl _, rfl, rfl, Lib.hid (fun j h1 h2 => absurd h2 (by omega))⟩
  case round =>
    obtain ⟨k, hk, rfl, rfl, hz⟩ := hrel
    have hx0c : wr.cell? ⟨w.heap.size, 0, none⟩ = some (.slice none 0 0) := hx0.1; have hx0f := hx0.2; have hlt0 : w.heap.size < wr.heap.size := by omega
    have hBr : Below w.heap.size w wr := hB0
    by_cases h0 : k = 0
    · subst h0
      have HE : Hid ([] = dg (vl l).toNat) := Lib.hid (trim_dg l hp.out 0 (Nat.zero_le _) hz.out (Or.inl rfl))
      go_wp2_with fail
      refine bodyPost_ret (v := .agg #[.slice (some ⟨w.heap.size + 1, 0, none⟩) 0 0]) (by simp [results, Tryd.results88, go_sem, cell_al (T1 wr (.slice (some ⟨w.heap.size + 1, 0, none⟩) 0 0) hx0c)]) rfl ?_
      exact ⟨_, _, by rw [← HE.out]; rfl, Or.inl HE.out.symm, by repeat (first | assumption | exact Below.refl _ _ | (with_reducible refine Below.drew ?_) | (with_reducible refine below_drewN' ?_ _) | (with_reducible refine below_al ?_) | ((with_reducible refine below_set ?_ ?_); rotate_left; focus (first | (simp; done) | (simp; omega))))⟩
    · have g := H0.out (k - 1) (by omega)
      have hk0 : decide ((0 : Int) < (k : Int)) = true := decide_eq_true (by omega)
      have hk1 : (1 : Int) ≤ (k : Int) := by omega
      have hk2 : (k : Int) - 1 < (l.length : Int) := by omega
      have hk3 : IntKind.i64.wrap ((k : Int) - 1) = (k : Int) - 1 := IntWalk.i64_in _ (by omega)
      generalize hx : l.getD (k - 1) 0 = x at *
      have HX := Lib.hid hx; clear hx
      by_cases hx0 : x = 0
      · subst hx0
        go_wp2_with fail
        go_roundw
        case rel =>
          refine ⟨k - 1, by omega, by go_num, trivial, Lib.hid (fun j h1 h2 => ?_)⟩
          by_cases e : j = k - 1
          · subst e; exact HX.out
          · exact hz.out j (by omega) h2
        case measure => simp [intOf]; omega
      · have hxb : (x == 0) = false := beq_eq_false_iff_ne.2 hx0
        have HE : Hid (l.take k = dg (vl l).toNat) := Lib.hid (trim_dg l hp.out k hk hz.out (Or.inr (by rw [HX.out]; exact hx0)))
        have HK : Hid (k = (dg (vl l).toNat).length) := Lib.hid (by rw [← HE.out, List.length_take, Nat.min_eq_left hk])
        have hbw : b < wr.heap.size := by omega
        go_wp2_with (at_builtin; refine wpList_app_in rfl (.tmp 18) (.tmp 21) _ rfl wr.heap.size 3 i0 _ 1 8 Tryd.underlying100 hi0 hz0 hs0 hb0 (by rfl) (by decide) (.slice (some ⟨wr.heap.size, 0, none⟩) 0 0) 0 [] (by simp [go_sem, hsz]) (own_empty _ _ _ (Nat.le_refl _)) (some ⟨b, o, none⟩) k c (ints (l.take k)) rfl ((src_take hbw H0.out k hk).below (by repeat (first | assumption | exact Below.refl _ _ | (with_reducible refine Below.drew ?_) | (with_reducible refine below_drewN' ?_ _) | (with_reducible refine below_al ?_) | ((with_reducible refine below_set ?_ ?_); rotate_left; focus (first | (simp; done) | (simp; omega)))))) (ints_one _) (by unfold maxLen; omega) (by omega) (by simp) ?_; intro v1 w1 hown1 hg1; obtain ⟨D, cD, rfl, hD⟩ := owns_days (l := l.take k) hown1; have hB1 : Below wr.heap.size wr w1 := ((Below.refl wr.heap.size wr).alloc (Nat.le_refl _) _).grown hg1 (by simp) (fun q hq => by cases hq; simp); have hc2 : w1.cell? ⟨w.heap.size, 0, none⟩ = some (.slice none 0 0) := (hB1.cell (p := ⟨w.heap.size, 0, none⟩) (by simp; omega)).trans hx0c; have hf2 := (hB1.frozen (p := ⟨w.heap.size, 0, none⟩) (by simp; omega)).trans hx0f; have HD := Lib.hid (hD.bt (owns_base hown1)); clear hD)
        have hLK : (l.take k).length = k := by rw [List.length_take, Nat.min_eq_left hk]
        refine bodyPost_ret (v := .agg #[.slice D (l.take k).length cD]) (by rw [hLK]; simp [results, Tryd.results88, go_sem, hc2]; try omega) rfl ?_
        refine ⟨D, cD, by rw [HE.out], (DBt.set (lo := wr.heap.size) (hi := w1.heap.size) (by rw [← HE.out]; exact HD.out) (Or.inl (by omega))).wide (by omega) (by simp), below_set (below_step (w := w) hB1 hBr) (Nat.le_refl _)⟩
theorem trim_c (A : Option Addr) (c n : Nat) (l : List Int) (hn : n = l.length) (hp : PartL l) (hcap : l.length ≤ c) (hlen : l.length ≤ 100000) (w : World) (h : DIn w A l) :
    Calls Tryd.prog 88 #[.slice A n c] w (BigRet (vl l).toNat w) := by
  subst hn
  rcases h with h | ⟨b, o, rfl, hb, hc⟩
  · subst h
    have hv : (vl ([] : List Int)).toNat = 0 := rfl
    rw [hv]
    go_enter Tryd.func88, Tryd.ntmps88
    go_wp2_with fail
    refine wp_loop_rounds 1 ?_
    rw [rounds_succ]
    have hcy : ((w.alloc (.cells #[.slice (some ⟨w.heap.size + 1, 0, none⟩) 0 0] 102)).alloc (.cells #[] 3)).cell? ⟨w.heap.size, 0, none⟩ = some (.slice (some ⟨w.heap.size + 1, 0, none⟩) 0 0) := cell_al (cell_nu rfl rfl)
    have hB : Below w.heap.size w w := Below.refl _ _
    cases A
    all_goals
      go_wp2_with fail
      refine bodyPost_ret (v := .agg #[.slice (some ⟨w.heap.size + 1, 0, none⟩) 0 0]) (by simp [results, Tryd.results88, go_sem, hcy]) rfl ?_
      exact ⟨_, _, by rw [dg_zero]; rfl, Or.inl dg_zero, by repeat (first | assumption | exact Below.refl _ _ | (with_reducible refine Below.drew ?_) | (with_reducible refine below_drewN' ?_ _) | (with_reducible refine below_al ?_) | ((with_reducible refine below_set ?_ ?_); rotate_left; focus (first | (simp; done) | (simp; omega))))⟩
  · exact trim_at b o c l (Lib.hid hp) hcap hlen w hb hc
end Go.Proofs.YtjcjchapfiokeaaDoor
