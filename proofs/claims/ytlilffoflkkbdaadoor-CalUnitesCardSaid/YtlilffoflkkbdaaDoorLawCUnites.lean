/- The walk of CalUnites: the law returns true for every input. Conditions: the tables of months' lengths and of the week all of whose days are off lie as the program's text lays them. -/
import Derived.Test.YtlilffoflkkbdaaDoorCal0
import Derived.Test.YtlilffoflkkbdaaDoorUniR
namespace Go.Proofs.YtlilffoflkkbdaaDoor
open Go.RowKit
set_option linter.unusedVariables false
set_option linter.unusedSimpArgs false
/-! The document's union. -/
theorem wpOper_app_ob {P : Program} {w : World} {o : Oper} {a : Act} {K : Act → World → Prop} {Q : Exit → Act → World → Prop} (s x : Operand) (t : TypeId)
    (ho : o.op = .call { callee := .builtin .append, args := #[s, x], argTypes := #[t, t] })
    (base : Nat) (e : TypeId) (i : TypeInfo) (z : Value) (size bytes : Nat) (ht : P.underlying t = some (.slice e)) (hi : P.info? e = some i) (hz : i.zero = some z)
    (hsize : i.size = size) (hby : i.bytes = bytes) (hzs : z.cells.size = size) (hsz : 0 < size)
    (v : Value) (n : Nat) (xs : List Value) (hs : a.eval s = v) (hown : w.ownsRow base e size v n xs)
    (A : Option Addr) (m c : Nat) (news : List Value) (hx : a.eval x = .slice A m c) (hsrc : SrcIn w size A m news) (h1 : ∀ u ∈ news, u.oneCell' = true)
    (h63 : n + m ≤ maxLen) (hbytes : (n + m) * bytes ≤ 140737488355328) (hbase : base ≤ w.heap.size)
    (h : ∀ v' w', w'.ownsRow base e size v' (n + m) (xs ++ news) → w.grownBy w' v.ownBlock → (v'.ownBlock = v.ownBlock ∨ v'.ownBlock = some w.heap.size) → K (a.put o.dst v') w') :
    Oper.wp P o a w K Q := by
  have key : ∃ v' w', (Builtin.append_ #[t, t] o.type #[v, .slice A m c]).run P w = .ok v' w' ∧ w'.ownsRow base e size v' (n + m) (xs ++ news) ∧ w.grownBy w' v.ownBlock ∧ (v'.ownBlock = v.ownBlock ∨ v'.ownBlock = some w.heap.size) := by
    rcases hsrc.2 with h0 | ⟨b, off, rfl, _, hc⟩
    · subst h0
      obtain rfl : news = [] := List.eq_nil_of_length_eq_zero (by simpa using hsrc.1)
      cases A with
      | none => exact ⟨v, w, run_app_none w base t o.type e i size ht hi v n xs hown c, by simpa using hown, World.grownBy.refl w _, Or.inl rfl⟩
      | some ad =>
        obtain ⟨v', w', hr, h2, h3, _, h5⟩ := run_append_own_at (P := P) w base t o.type e i z size bytes ht hi hz hsize hby hzs hsz v n xs hown ad 0 c [] (by simp) (fun j u hu => by simp at hu) h1 h63 hbytes hbase
        exact ⟨v', w', hr, h2, h3, h5⟩
    · obtain ⟨v', w', hr, h2, h3, _, h5⟩ := run_append_own_at (P := P) w base t o.type e i z size bytes ht hi hz hsize hby hzs hsz v n xs hown ⟨b, off, none⟩ m c news hsrc.1 (fun j u hu => by
        rw [ad_add]; exact hc j u hu) h1 h63 hbytes hbase
      exact ⟨v', w', hr, h2, h3, h5⟩
  obtain ⟨v', w', hr, h2, h3, h5⟩ := key
  unfold Oper.wp execOp
  simp only [ho, resolve, invoke, builtin, Sem.run_bind, Sem.run_pure, Result.andThen_ok, List.map_toArray, List.map_cons, List.map_nil, hs, hx, hr]
  exact h v' w' h2 h3 h5
theorem app_first {X W : World} {base n size : Nat} {e : TypeId} {v v' : Value} {xs : List Value} {G : Nat} (h : W.ownsRow base e size v' n xs) (hv : v.ownBlock = some G) (ho : v'.ownBlock = v.ownBlock ∨ v'.ownBlock = some X.heap.size) : ∃ g c, v' = .slice (some ⟨g, 0, none⟩) n c ∧ (g = G ∨ g = X.heap.size) := by
  rw [hv] at ho
  rcases h.2 with ⟨rfl, rfl⟩ | ⟨g, cap, cur, rfl, _⟩
  · rcases ho with h | h <;> cases h
  · exact ⟨g, cap, rfl, ho.imp (fun h => Option.some.inj h) (fun h => Option.some.inj h)⟩
theorem gcell {X W : World} {g : Nat} (hg : X.grownBy W (some g)) : (∀ b o, b < X.heap.size → b ≠ g → W.cell? ⟨b, o, none⟩ = X.cell? ⟨b, o, none⟩) ∧ (∀ b o, b < X.heap.size → b ≠ g → W.frozen? ⟨b, o, none⟩ = X.frozen? ⟨b, o, none⟩) :=
  ⟨fun b o h hn => World.cell?_of_block (w := X) (hg.block b h (fun e => hn (Option.some.inj e))), fun b o h hn => World.frozen?_of_block (w := X) (hg.block b h (fun e => hn (Option.some.inj e)))⟩
theorem DBt.gr {X W : World} {lo hi g : Nat} {D : Option Addr} {ds : List Int} (h : DBt X lo hi D ds) (hh : hi ≤ X.heap.size) (hg : X.grownBy W (some g)) (hn : g < lo ∨ hi ≤ g) : DBt W lo hi D ds := by
  rcases h with h | ⟨b, o, e1, e2, e3, e4⟩
  · exact Or.inl h
  · exact Or.inr ⟨b, o, e1, e2, e3, fun j hj => ((gcell hg).1 b _ (by omega) (by omega)).trans (e4 j hj)⟩
theorem owns_bt {w : World} {base n : Nat} {e : TypeId} {g c : Nat} {rs : List R8} (h : w.ownsRow base e 8 (.slice (some ⟨g, 0, none⟩) n c) n (rs.flatMap R8.enc)) : RBt w g (g + 1) (some ⟨g, 0, none⟩) rs ∧ n = rs.length := by
  obtain ⟨A, c', hv, hr⟩ := owns_rules h
  cases hv
  refine ⟨?_, rfl⟩
  rcases hr with h | ⟨b, o, h1, h2, h3⟩
  · exact Or.inl h
  · cases h1; exact Or.inr ⟨g, 0, rfl, Nat.le_refl _, by omega, h3⟩
def offr (a b : CalP) (k i : Nat) : Bool := if i < k then (a.off i || b.off i) else false
def RUniAt (a b : CalP) (g : Nat) (x y : Value) (k : Nat) (W : World) : Prop := ∃ cs : Array Value, W.heap[g]? = some (.cells cs 26 (0, 0)) ∧ cs.size = 9 ∧ (∀ i : Nat, i < 7 → cs[i]? = some (.bool (offr a b k i))) ∧ cs[7]? = some x ∧ cs[8]? = some y
theorem RUniAt.step {a b : CalP} {g k : Nat} {x y : Value} {W : World} (h : RUniAt a b g x y k W) (hk : k < 7) : RUniAt a b g x y (k + 1) (W.setCell ⟨g, k, none⟩ (.bool (a.off k || b.off k))) := by
  obtain ⟨cs, h1, h2, h3, h4, h5⟩ := h
  refine ⟨_, blk_set h1, by simpa using h2, fun i hi => ?_, ?_, ?_⟩
  · rw [Array.getElem?_setIfInBounds]
    by_cases e : k = i
    · subst e
      rw [if_pos rfl, if_pos (by omega)]
      unfold offr; rw [if_pos (by omega)]
    · rw [if_neg e, h3 i hi]
      unfold offr
      by_cases hik : i < k
      · rw [if_pos hik, if_pos (by omega)]
      · rw [if_neg hik, if_neg (by omega)]
  · rw [Array.getElem?_setIfInBounds, if_neg (by omega)]; exact h4
  · rw [Array.getElem?_setIfInBounds, if_neg (by omega)]; exact h5
theorem RUniAt.start {a b : CalP} {g : Nat} {x y : Value} {W : World} (h : W.heap[g]? = some (.cells #[.bool false, .bool false, .bool false, .bool false, .bool false, .bool false, .bool false, x, y] 26 (0, 0))) : RUniAt a b g x y 0 W := by
  refine ⟨_, h, rfl, fun i hi => ?_, rfl, rfl⟩
  have hk : i = 0 ∨ i = 1 ∨ i = 2 ∨ i = 3 ∨ i = 4 ∨ i = 5 ∨ i = 6 := by omega
  rcases hk with rfl | rfl | rfl | rfl | rfl | rfl | rfl <;> rfl
set_option maxRecDepth 100000 in
set_option maxHeartbeats 40000000 in
theorem runion_c (a b : CalP) (w : World) (ia : CalIn w a) (ib : CalIn w b) (sa : a.ds.Pairwise (· < ·)) (sb : b.ds.Pairwise (· < ·)) (na : a.rs.length ≤ 1000000) (nb : b.rs.length ≤ 1000000) (la : a.ds.length ≤ 1000000) (lb : b.ds.length ≤ 1000000) : Calls Tryd.prog 38 #[.agg #[.bool a.o0, .bool a.o1, .bool a.o2, .bool a.o3, .bool a.o4, .bool a.o5, .bool a.o6, .slice a.A a.rs.length a.cR, .slice a.D a.ds.length a.cD], .agg #[.bool b.o0, .bool b.o1, .bool b.o2, .bool b.o3, .bool b.o4, .bool b.o5, .bool b.o6, .slice b.A b.rs.length b.cR, .slice b.D b.ds.length b.cD]] w (UnionP a b w) := by
  obtain ⟨i0, hi0, hz0, hs0, hb0⟩ := info_parts infoR
  go_enter Tryd.func38, Tryd.ntmps38
  go_upto_region 1 with fail
  generalize hW : (((w.alloc _).alloc _).alloc _) = w0
  have hz0w : w0.heap.size = w.heap.size + 3 := by rw [← hW]; simp
  have hB0 : Below w.heap.size w w0 := by rw [← hW]; exact below_al (below_al (below_al (Below.refl _ _)))
  have ca0 : Hid (w0.cell? ⟨w.heap.size, 0, none⟩ = some (.bool a.o0)) := Lib.hid (by rw [← hW]; exact cell_al (cell_al (cell_nu rfl rfl)))
  have ca1 : Hid (w0.cell? ⟨w.heap.size, 1, none⟩ = some (.bool a.o1)) := Lib.hid (by rw [← hW]; exact cell_al (cell_al (cell_nu rfl rfl)))
  have ca2 : Hid (w0.cell? ⟨w.heap.size, 2, none⟩ = some (.bool a.o2)) := Lib.hid (by rw [← hW]; exact cell_al (cell_al (cell_nu rfl rfl)))
  have ca3 : Hid (w0.cell? ⟨w.heap.size, 3, none⟩ = some (.bool a.o3)) := Lib.hid (by rw [← hW]; exact cell_al (cell_al (cell_nu rfl rfl)))
  have ca4 : Hid (w0.cell? ⟨w.heap.size, 4, none⟩ = some (.bool a.o4)) := Lib.hid (by rw [← hW]; exact cell_al (cell_al (cell_nu rfl rfl)))
  have ca5 : Hid (w0.cell? ⟨w.heap.size, 5, none⟩ = some (.bool a.o5)) := Lib.hid (by rw [← hW]; exact cell_al (cell_al (cell_nu rfl rfl)))
  have ca6 : Hid (w0.cell? ⟨w.heap.size, 6, none⟩ = some (.bool a.o6)) := Lib.hid (by rw [← hW]; exact cell_al (cell_al (cell_nu rfl rfl)))
  have ca7 : Hid (w0.cell? ⟨w.heap.size, 7, none⟩ = some (.slice a.A a.rs.length a.cR)) := Lib.hid (by rw [← hW]; exact cell_al (cell_al (cell_nu rfl rfl)))
  have ca8 : Hid (w0.cell? ⟨w.heap.size, 8, none⟩ = some (.slice a.D a.ds.length a.cD)) := Lib.hid (by rw [← hW]; exact cell_al (cell_al (cell_nu rfl rfl)))
  have cb0 : Hid (w0.cell? ⟨w.heap.size + 1, 0, none⟩ = some (.bool b.o0)) := Lib.hid (by rw [← hW]; exact cell_al (cell_nu (by simp) rfl))
  have cb1 : Hid (w0.cell? ⟨w.heap.size + 1, 1, none⟩ = some (.bool b.o1)) := Lib.hid (by rw [← hW]; exact cell_al (cell_nu (by simp) rfl))
  have cb2 : Hid (w0.cell? ⟨w.heap.size + 1, 2, none⟩ = some (.bool b.o2)) := Lib.hid (by rw [← hW]; exact cell_al (cell_nu (by simp) rfl))
  have cb3 : Hid (w0.cell? ⟨w.heap.size + 1, 3, none⟩ = some (.bool b.o3)) := Lib.hid (by rw [← hW]; exact cell_al (cell_nu (by simp) rfl))
  have cb4 : Hid (w0.cell? ⟨w.heap.size + 1, 4, none⟩ = some (.bool b.o4)) := Lib.hid (by rw [← hW]; exact cell_al (cell_nu (by simp) rfl))
  have cb5 : Hid (w0.cell? ⟨w.heap.size + 1, 5, none⟩ = some (.bool b.o5)) := Lib.hid (by rw [← hW]; exact cell_al (cell_nu (by simp) rfl))
  have cb6 : Hid (w0.cell? ⟨w.heap.size + 1, 6, none⟩ = some (.bool b.o6)) := Lib.hid (by rw [← hW]; exact cell_al (cell_nu (by simp) rfl))
  have cb7 : Hid (w0.cell? ⟨w.heap.size + 1, 7, none⟩ = some (.slice b.A b.rs.length b.cR)) := Lib.hid (by rw [← hW]; exact cell_al (cell_nu (by simp) rfl))
  have cb8 : Hid (w0.cell? ⟨w.heap.size + 1, 8, none⟩ = some (.slice b.D b.ds.length b.cD)) := Lib.hid (by rw [← hW]; exact cell_al (cell_nu (by simp) rfl))
  have hres := Lib.hid (show w0.heap[w.heap.size + 1 + 1]? = some (.cells #[.bool false, .bool false, .bool false, .bool false, .bool false, .bool false, .bool false, .slice none 0 0, .slice none 0 0] 26 (0, 0)) by rw [← hW]; exact blk_nu (by simp))
  have HWA : Hid (∀ k : Nat, k < 7 → w0.cell? ⟨w.heap.size, k, none⟩ = some (.bool (a.off k))) := Lib.hid (fun k hk => by rw [← hW]; exact cell_al (cell_al (cell_nu rfl (off_at a k hk))))
  have HWB : Hid (∀ k : Nat, k < 7 → w0.cell? ⟨w.heap.size + 1, k, none⟩ = some (.bool (b.off k))) := Lib.hid (fun k hk => by rw [← hW]; exact cell_al (cell_nu (by simp) (off_at b k hk)))
  clear hW
  have HZ0 := Lib.hid hz0w; clear hz0w
  have HRA := Lib.hid (ia.below hB0).r; have HDA := Lib.hid (ia.below hB0).d; have HRB := Lib.hid (ib.below hB0).r; have HDB := Lib.hid (ib.below hB0).d; clear ia ib
  have hRS : ∃ rs', a.rs ++ b.rs = rs' := ⟨_, rfl⟩
  obtain ⟨rs', hrs⟩ := hRS
  have HRS := Lib.hid hrs; clear hrs
  have hB00 : Below w0.heap.size w0 w0 := Below.refl _ _
  have HS : Hid (∀ W, Below w0.heap.size w0 W → (fun w' => Below w0.heap.size w0 w' ∧ w'.cell? ⟨w.heap.size, 7, none⟩ = some (.slice a.A a.rs.length a.cR) ∧ w'.cell? ⟨w.heap.size, 8, none⟩ = some (.slice a.D a.ds.length a.cD) ∧ w'.cell? ⟨w.heap.size + 1, 7, none⟩ = some (.slice b.A b.rs.length b.cR) ∧ w'.cell? ⟨w.heap.size + 1, 8, none⟩ = some (.slice b.D b.ds.length b.cD)) W) := Lib.hid (fun W h => ⟨h, below_some h _ _ _ ca7.out, below_some h _ _ _ ca8.out, below_some h _ _ _ cb7.out, below_some h _ _ _ cb8.out⟩)
  go_cut [6] (fun s6 wx => ∃ (g : Nat) (C D : Option Addr) (cc cd : Nat), s6 = .pointer (some ⟨g, 0, none⟩) ∧ w0.heap.size ≤ g ∧ wx.heap[g]? = some (.cells #[.bool false, .bool false, .bool false, .bool false, .bool false, .bool false, .bool false, .slice C (a.rs.length + b.rs.length) cc, .slice D (uds a.ds b.ds).length cd] 26 (0, 0)) ∧ RAp wx w0.heap.size g C rs' ∧ DAp wx w0.heap.size g D (uds a.ds b.ds) ∧ Below w0.heap.size w0 wx)
  case first =>
    go_region_held3 (fun w' => Below w0.heap.size w0 w' ∧ w'.cell? ⟨w.heap.size, 7, none⟩ = some (.slice a.A a.rs.length a.cR) ∧ w'.cell? ⟨w.heap.size, 8, none⟩ = some (.slice a.D a.ds.length a.cD) ∧ w'.cell? ⟨w.heap.size + 1, 7, none⟩ = some (.slice b.A b.rs.length b.cR) ∧ w'.cell? ⟨w.heap.size + 1, 8, none⟩ = some (.slice b.D b.ds.length b.cD)) ((refine HS.out _ ?_; repeat (first | (with_reducible assumption) | (with_reducible exact Below.refl _ _) | (with_reducible refine Below.drew ?_) | (with_reducible refine below_drewN' ?_ _) | (with_reducible refine below_al ?_) | ((with_reducible refine below_set ?_ ?_); rotate_left; focus (first | (simp; done) | (simp; omega)))))) (first | (rw [if_pos (by rfl)]; refine wpOper_app_ob (.tmp 9) (.tmp 11) _ rfl w0.heap.size 68 i0 _ 8 64 Tryd.underlying23 hi0 hz0 hs0 hb0 (by rfl) (by decide) (.slice (some ⟨_, 0, none⟩) 0 0) 0 [] rfl (own_nil (by repeat (first | assumption | (with_reducible refine blk_dr ?_) | (refine blk_nu (by first | (simp; done) | omega | (simp; omega))) | (with_reducible refine blk_al ?_) | (refine blk_st hb3 ?_))) (by first | omega | (simp; done) | (simp; omega))) a.A a.rs.length a.cR (a.rs.flatMap R8.enc) rfl ((HRA.out.below (by repeat (first | (with_reducible assumption) | (with_reducible exact Below.refl _ _) | (with_reducible refine Below.drew ?_) | (with_reducible refine below_drewN' ?_ _) | (with_reducible refine below_al ?_) | ((with_reducible refine below_set ?_ ?_); rotate_left; focus (first | (simp; done) | (simp; omega)))))).src) (flat_one _) (by unfold maxLen; omega) (by omega) (by first | omega | (simp; done) | (simp; omega)) ?_; intro v1 w6 hown0 hg1 hob1; have hown1 : w6.ownsRow w0.heap.size 68 8 v1 a.rs.length (a.rs.flatMap R8.enc) := (by simpa using hown0); clear hown0; obtain ⟨g1, c1, rfl, hge1⟩ := app_first hown1 rfl hob1; (try simp at hge1); have hlt1 := hown1.lt g1 rfl; have hbB6 : Below w0.heap.size w0 w6 := Below.grown (by repeat (first | (with_reducible assumption) | (with_reducible exact Below.refl _ _) | (with_reducible refine Below.drew ?_) | (with_reducible refine below_drewN' ?_ _) | (with_reducible refine below_al ?_) | ((with_reducible refine below_set ?_ ?_); rotate_left; focus (first | (simp; done) | (simp; omega))))) hg1 (by first | omega | (simp; done) | (simp; omega)) (fun k hk => by cases hk; first | omega | (simp; done) | (simp; omega)); have hz6 := hg1.size; (try simp at hz6); obtain ⟨hc6, hf6⟩ := gcell hg1; (try have hd' := DBt.gr (hd.below (by repeat (first | (with_reducible assumption) | (with_reducible exact Below.refl _ _) | (with_reducible refine Below.drew ?_) | (with_reducible refine below_drewN' ?_ _) | (with_reducible refine below_al ?_) | ((with_reducible refine below_set ?_ ?_); rotate_left; focus (first | (simp; done) | (simp; omega)))))) (by first | omega | (simp; done) | (simp; omega)) hg1 (by first | omega | (simp; done) | (simp; omega))); (try clear hd); (try have hd := hd'); (try clear hd'); (try have := (by omega : w0.heap.size < w6.heap.size)); (try have := (by omega : w0.heap.size + 1 < w6.heap.size)); (try have := (by omega : w0.heap.size + 1 + 1 < w6.heap.size)); (try have := (by omega : w6.heap.size < w6.heap.size)); (try have := (by omega : w6.heap.size + 1 < w6.heap.size)); (try have := (by omega : w7.heap.size < w6.heap.size)); (try have := (by omega : w7.heap.size + 1 < w6.heap.size)); (try have := (by omega : wq.heap.size < w6.heap.size)); (try have := (by omega : wq.heap.size + 1 < w6.heap.size)); (try have := (by omega : wq.heap.size + 1 + 1 < w6.heap.size))) | (rw [if_pos (by rfl)]; refine wpOper_app_ob (.tmp 12) (.tmp 14) _ rfl w0.heap.size 68 i0 _ 8 64 Tryd.underlying23 hi0 hz0 hs0 hb0 (by rfl) (by decide) (.slice (some ⟨g1, 0, none⟩) a.rs.length c1) a.rs.length (a.rs.flatMap R8.enc) rfl (own_of hown1 (fun k B h => by repeat (first | assumption | (with_reducible refine blk_dr ?_) | (refine blk_nu (by first | (simp; done) | omega | (simp; omega))) | (with_reducible refine blk_al ?_) | (refine blk_st hb3 ?_)))) b.A b.rs.length b.cR (b.rs.flatMap R8.enc) rfl ((HRB.out.below (by repeat (first | (with_reducible assumption) | (with_reducible exact Below.refl _ _) | (with_reducible refine Below.drew ?_) | (with_reducible refine below_drewN' ?_ _) | (with_reducible refine below_al ?_) | ((with_reducible refine below_set ?_ ?_); rotate_left; focus (first | (simp; done) | (simp; omega)))))).src) (flat_one _) (by unfold maxLen; omega) (by omega) (by first | omega | (simp; done) | (simp; omega)) ?_; intro v2 w7 hown2 hg2 hob2; have hown3 : w7.ownsRow w0.heap.size 68 8 v2 (a.rs.length + b.rs.length) (rs'.flatMap R8.enc) := (by rw [← HRS.out, List.flatMap_append]; exact hown2); obtain ⟨g2, c2, rfl, hge2⟩ := app_first hown3 rfl hob2; (try simp at hge2); have hlt2 := hown3.lt g2 rfl; have hr := (owns_bt hown3).1; have hbB7 : Below w0.heap.size w0 w7 := Below.grown (by repeat (first | (with_reducible assumption) | (with_reducible exact Below.refl _ _) | (with_reducible refine Below.drew ?_) | (with_reducible refine below_drewN' ?_ _) | (with_reducible refine below_al ?_) | ((with_reducible refine below_set ?_ ?_); rotate_left; focus (first | (simp; done) | (simp; omega))))) hg2 (by first | omega | (simp; done) | (simp; omega)) (fun k hk => by cases hk; exact hlt1.1); have hz7 := hg2.size; (try simp at hz7); obtain ⟨hc7, hf7⟩ := gcell hg2; (try have hd' := DBt.gr (hd.below (by repeat (first | (with_reducible assumption) | (with_reducible exact Below.refl _ _) | (with_reducible refine Below.drew ?_) | (with_reducible refine below_drewN' ?_ _) | (with_reducible refine below_al ?_) | ((with_reducible refine below_set ?_ ?_); rotate_left; focus (first | (simp; done) | (simp; omega)))))) (by first | omega | (simp; done) | (simp; omega)) hg2 (by first | omega | (simp; done) | (simp; omega))); (try clear hd); (try have hd := hd'); (try clear hd'); (try have := (by omega : w0.heap.size < w7.heap.size)); (try have := (by omega : w0.heap.size + 1 < w7.heap.size)); (try have := (by omega : w0.heap.size + 1 + 1 < w7.heap.size)); (try have := (by omega : w6.heap.size < w7.heap.size)); (try have := (by omega : w6.heap.size + 1 < w7.heap.size)); (try have := (by omega : w7.heap.size < w7.heap.size)); (try have := (by omega : w7.heap.size + 1 < w7.heap.size)); (try have := (by omega : wq.heap.size < w7.heap.size)); (try have := (by omega : wq.heap.size + 1 < w7.heap.size)); (try have := (by omega : wq.heap.size + 1 + 1 < w7.heap.size)); (try have : w0.heap.size ≠ g1 := by omega); (try have : w0.heap.size + 1 ≠ g1 := by omega); (try have : w0.heap.size + 1 + 1 ≠ g1 := by omega); (try have : w6.heap.size ≠ g1 := by omega); (try have : w6.heap.size + 1 ≠ g1 := by omega); (try have : w7.heap.size ≠ g1 := by omega); (try have : w7.heap.size + 1 ≠ g1 := by omega); (try have : wq.heap.size ≠ g1 := by omega); (try have : wq.heap.size + 1 ≠ g1 := by omega); (try have : wq.heap.size + 1 + 1 ≠ g1 := by omega)) | (go_at_call 66; refine (days_c a.D b.D a.cD b.cD a.ds b.ds sa sb la lb _ (HDA.out.below (by repeat (first | (with_reducible assumption) | (with_reducible exact Below.refl _ _) | (with_reducible refine Below.drew ?_) | (with_reducible refine below_drewN' ?_ _) | (with_reducible refine below_al ?_) | ((with_reducible refine below_set ?_ ?_); rotate_left; focus (first | (simp; done) | (simp; omega)))))) (HDB.out.below (by repeat (first | (with_reducible assumption) | (with_reducible exact Below.refl _ _) | (with_reducible refine Below.drew ?_) | (with_reducible refine below_drewN' ?_ _) | (with_reducible refine below_al ?_) | ((with_reducible refine below_set ?_ ?_); rotate_left; focus (first | (simp; done) | (simp; omega))))))).mono ?_; rintro e wq ⟨D, cd, rfl, hd, hb3⟩; have hbBq := below_step (w := w0) hb3 (by repeat (first | (with_reducible assumption) | (with_reducible exact Below.refl _ _) | (with_reducible refine Below.drew ?_) | (with_reducible refine below_drewN' ?_ _) | (with_reducible refine below_al ?_) | ((with_reducible refine below_set ?_ ?_); rotate_left; focus (first | (simp; done) | (simp; omega))))); have hzq := hb3.size; (try simp at hzq); (try simp at hd); obtain ⟨hcq, hfq⟩ := bcell hb3; (try have hr' := hr.below (below_step (w := w7) hb3 (by have := Below.refl w7.heap.size w7; repeat (first | (with_reducible assumption) | (with_reducible exact Below.refl _ _) | (with_reducible refine Below.drew ?_) | (with_reducible refine below_drewN' ?_ _) | (with_reducible refine below_al ?_) | ((with_reducible refine below_set ?_ ?_); rotate_left; focus (first | (simp; done) | (simp; omega))))))); (try clear hr); (try have hr := hr'); (try clear hr'); (try have := (by omega : w0.heap.size < wq.heap.size)); (try have := (by omega : w0.heap.size + 1 < wq.heap.size)); (try have := (by omega : w0.heap.size + 1 + 1 < wq.heap.size)); (try have := (by omega : w6.heap.size < wq.heap.size)); (try have := (by omega : w6.heap.size + 1 < wq.heap.size)); (try have := (by omega : w7.heap.size < wq.heap.size)); (try have := (by omega : w7.heap.size + 1 < wq.heap.size)); (try have := (by omega : wq.heap.size < wq.heap.size)); (try have := (by omega : wq.heap.size + 1 < wq.heap.size)); (try have := (by omega : wq.heap.size + 1 + 1 < wq.heap.size))))
    all_goals (go_wp2_with fail; go_meet; refine ⟨_, some ⟨g2, 0, none⟩, D, c2, cd, rfl, ?_, ?_, ?_, ?_, ?_⟩; (focus (first | omega | (simp; done) | (simp; omega))); (focus (first | (with_reducible refine blk_nu ?_; rfl) | ((with_reducible refine set9 ?_); repeat (first | (with_reducible refine blk_dr ?_) | (refine blk_nu (by first | (simp; done) | omega | (simp; omega))) | (with_reducible refine blk_al ?_) | (refine blk_gr hg1 (by simp [Value.ownBlock] <;> omega) ?_) | (refine blk_gr hg2 (by simp [Value.ownBlock] <;> omega) ?_) | (refine blk_st hb3 ?_))))); (focus ((first | (with_reducible refine RBt.ap (RBt.set9 hr ?_) ?_ ?_ ?_) | (with_reducible refine RBt.ap (RBt.below hr ?_) ?_ ?_ ?_)); all_goals (first | omega | (simp; done) | (simp; omega) | (repeat (first | (with_reducible assumption) | (with_reducible exact Below.refl _ _) | (with_reducible refine Below.drew ?_) | (with_reducible refine below_drewN' ?_ _) | (with_reducible refine below_al ?_) | ((with_reducible refine below_set ?_ ?_); rotate_left; focus (first | (simp; done) | (simp; omega)))))))); (focus ((first | (with_reducible refine DBt.ap (DBt.set9 hd ?_) ?_ ?_ ?_) | (with_reducible refine DBt.ap (DBt.below hd ?_) ?_ ?_ ?_)); all_goals (first | omega | (simp; done) | (simp; omega) | (repeat (first | (with_reducible assumption) | (with_reducible exact Below.refl _ _) | (with_reducible refine Below.drew ?_) | (with_reducible refine below_drewN' ?_ _) | (with_reducible refine below_al ?_) | ((with_reducible refine below_set ?_ ?_); rotate_left; focus (first | (simp; done) | (simp; omega)))))))); (repeat (first | (with_reducible assumption) | (with_reducible exact Below.refl _ _) | (with_reducible refine Below.drew ?_) | (with_reducible refine below_drewN' ?_ _) | (with_reducible refine below_al ?_) | ((with_reducible refine below_set ?_ ?_); rotate_left; focus (first | (simp; done) | (simp; omega))))))
  case rest =>
    obtain ⟨g, C, D, cc, cd, rfl, hg, hblk, hr, hd, hB⟩ := hcut
    have hBc : Below w.heap.size w wc := hB0.trans (hB.mono hB0.size)
    have hgw : w.heap.size ≤ g := by have := hB0.size; omega
    have hDS : ∃ ds', uds a.ds b.ds = ds' := ⟨_, rfl⟩
    obtain ⟨ds', hds⟩ := hDS
    rw [show a.rs.length + b.rs.length = rs'.length by rw [← HRS.out, List.length_append], hds] at hblk
    rw [hds] at hd
    have HDS := Lib.hid hds
    clear hds HS
    have HU0 := Lib.hid (RUniAt.start (a := a) (b := b) hblk)
    have HR0 := Lib.hid hr; have HD0 := Lib.hid hd; have HBL0 := Lib.hid hB
    clear hblk hr hd hB hBc
    go_wp2_with fail
    go_loopw [7] (fun i wr => ∃ k : Nat, k ≤ 7 ∧ i = .int .i64 k ∧ Hid (RUniAt a b g (.slice C rs'.length cc) (.slice D ds'.length cd) k wr) ∧ Hid (RAp wr w0.heap.size g C rs') ∧ Hid (DAp wr w0.heap.size g D ds') ∧ Hid (Below w0.heap.size w0 wr)) (fun i _ => 7 - (intOf i).toNat)
    case atStart => exact ⟨0, by omega, rfl, HU0, HR0, HD0, HBL0⟩
    case round =>
      obtain ⟨k, hkk, rfl, HU, HR, HD, HBL⟩ := hrel
      clear HU0 HR0 HD0 HBL0
      by_cases hlt : k < 7
      · have hltz : (k : Int) < 7 := by omega
        have hd1 := decide_eq_true hltz
        have hk0 : (0 : Int) ≤ (k : Int) := by omega
        have nx := HU.out.step hlt
        have nr := Lib.hid (HR.out.set (k := g) (i := k) (u := .bool (a.off k || b.off k)) (Or.inl rfl))
        have nd := Lib.hid (HD.out.set (k := g) (i := k) (u := .bool (a.off k || b.off k)) (Or.inl rfl))
        have nb := Lib.hid (below_set (p := ⟨g, k, none⟩) (u := .bool (a.off k || b.off k)) HBL.out hg)
        have NX := Lib.hid nx; clear nx
        have gc : wr.cell? ⟨g, k, none⟩ = some (.bool false) := by
          obtain ⟨cs, h1, h2, h3, h4, h5⟩ := HU.out
          refine blk_cell h1 ((h3 k hlt).trans ?_)
          unfold offr; rw [if_neg (by omega)]
        have gf : wr.frozen? ⟨g, k, none⟩ = false := by
          obtain ⟨cs, h1, h2, h3, h4, h5⟩ := HU.out
          exact blk_free h1
        have ga : wr.cell? ⟨w.heap.size, k, none⟩ = some (.bool (a.off k)) := below_some HBL.out _ _ _ (HWA.out k hlt)
        have gb : wr.cell? ⟨w.heap.size + 1, k, none⟩ = some (.bool (b.off k)) := below_some HBL.out _ _ _ (HWB.out k hlt)
        generalize a.off k = x at *
        generalize b.off k = y at *
        cases x
        · go_wp2_with fail
          go_roundw
          case rel => exact ⟨k + 1, by omega, by go_num, NX, nr, nd, nb⟩
          case measure => simp [intOf]; omega
        · go_wp2_with fail
          go_roundw
          case rel => exact ⟨k + 1, by omega, by go_num, NX, nr, nd, nb⟩
          case measure => simp [intOf]; omega
      · obtain rfl : k = 7 := by omega
        obtain ⟨cs, q1, q2, q3, q4, q5⟩ := HU.out
        have e0 : wr.cell? ⟨g, 0, none⟩ = some (.bool (a.o0 || b.o0)) := blk_cell q1 (q3 0 (by omega))
        have e1 : wr.cell? ⟨g, 1, none⟩ = some (.bool (a.o1 || b.o1)) := blk_cell q1 (q3 1 (by omega))
        have e2 : wr.cell? ⟨g, 2, none⟩ = some (.bool (a.o2 || b.o2)) := blk_cell q1 (q3 2 (by omega))
        have e3 : wr.cell? ⟨g, 3, none⟩ = some (.bool (a.o3 || b.o3)) := blk_cell q1 (q3 3 (by omega))
        have e4 : wr.cell? ⟨g, 4, none⟩ = some (.bool (a.o4 || b.o4)) := blk_cell q1 (q3 4 (by omega))
        have e5 : wr.cell? ⟨g, 5, none⟩ = some (.bool (a.o5 || b.o5)) := blk_cell q1 (q3 5 (by omega))
        have e6 : wr.cell? ⟨g, 6, none⟩ = some (.bool (a.o6 || b.o6)) := blk_cell q1 (q3 6 (by omega))
        have e7 := blk_cell q1 q4
        have e8 := blk_cell q1 q5
        clear q1 q2 q3 q4 q5
        have hBr : Below w.heap.size w wr := hB0.trans (HBL.out.mono hB0.size)
        have HCI : Hid (CalIn wr (uniR a b C cc rs' D cd ds')) := Lib.hid ⟨HR.out.to, HD.out.to⟩
        go_wp2_with fail
        refine (rcalMay_c (uniR a b C cc rs' D cd ds') wr HCI.out).mono ?_; rintro e wN ⟨rfl, hbN⟩
        have hN0 : Below w0.heap.size w0 wN := HBL.out.trans (hbN.mono HBL.out.size)
        have hBN : Below w.heap.size w wN := hB0.trans (hN0.mono hB0.size)
        have hrc := blk_st hN0 hres.out
        have n0 := below_some hbN _ _ _ e0
        have n1 := below_some hbN _ _ _ e1
        have n2 := below_some hbN _ _ _ e2
        have n3 := below_some hbN _ _ _ e3
        have n4 := below_some hbN _ _ _ e4
        have n5 := below_some hbN _ _ _ e5
        have n6 := below_some hbN _ _ _ e6
        have n7 := below_some hbN _ _ _ e7
        have n8 := below_some hbN _ _ _ e8
        have z0 : wN.cell? ⟨w.heap.size + 1 + 1, 0, none⟩ = some (.bool false) := blk_cell hrc rfl
        have f0 : wN.frozen? ⟨w.heap.size + 1 + 1, 0, none⟩ = false := blk_free hrc
        have z1 : wN.cell? ⟨w.heap.size + 1 + 1, 1, none⟩ = some (.bool false) := blk_cell hrc rfl
        have f1 : wN.frozen? ⟨w.heap.size + 1 + 1, 1, none⟩ = false := blk_free hrc
        have z2 : wN.cell? ⟨w.heap.size + 1 + 1, 2, none⟩ = some (.bool false) := blk_cell hrc rfl
        have f2 : wN.frozen? ⟨w.heap.size + 1 + 1, 2, none⟩ = false := blk_free hrc
        have z3 : wN.cell? ⟨w.heap.size + 1 + 1, 3, none⟩ = some (.bool false) := blk_cell hrc rfl
        have f3 : wN.frozen? ⟨w.heap.size + 1 + 1, 3, none⟩ = false := blk_free hrc
        have z4 : wN.cell? ⟨w.heap.size + 1 + 1, 4, none⟩ = some (.bool false) := blk_cell hrc rfl
        have f4 : wN.frozen? ⟨w.heap.size + 1 + 1, 4, none⟩ = false := blk_free hrc
        have z5 : wN.cell? ⟨w.heap.size + 1 + 1, 5, none⟩ = some (.bool false) := blk_cell hrc rfl
        have f5 : wN.frozen? ⟨w.heap.size + 1 + 1, 5, none⟩ = false := blk_free hrc
        have z6 : wN.cell? ⟨w.heap.size + 1 + 1, 6, none⟩ = some (.bool false) := blk_cell hrc rfl
        have f6 : wN.frozen? ⟨w.heap.size + 1 + 1, 6, none⟩ = false := blk_free hrc
        have z7 : wN.cell? ⟨w.heap.size + 1 + 1, 7, none⟩ = some (.slice none 0 0) := blk_cell hrc rfl
        have f7 : wN.frozen? ⟨w.heap.size + 1 + 1, 7, none⟩ = false := blk_free hrc
        have z8 : wN.cell? ⟨w.heap.size + 1 + 1, 8, none⟩ = some (.slice none 0 0) := blk_cell hrc rfl
        have f8 : wN.frozen? ⟨w.heap.size + 1 + 1, 8, none⟩ = false := blk_free hrc
        have hs2 : w.heap.size + 1 + 1 < w0.heap.size := by have := HZ0.out; omega
        have FIN : ∀ (v0 v1 v2 v3 v4 v5 v6 v7 v8 : Value), CalIn (((((((((wN.setCell ⟨w.heap.size + 1 + 1, 0, none⟩ (v0)).setCell ⟨w.heap.size + 1 + 1, 1, none⟩ (v1)).setCell ⟨w.heap.size + 1 + 1, 2, none⟩ (v2)).setCell ⟨w.heap.size + 1 + 1, 3, none⟩ (v3)).setCell ⟨w.heap.size + 1 + 1, 4, none⟩ (v4)).setCell ⟨w.heap.size + 1 + 1, 5, none⟩ (v5)).setCell ⟨w.heap.size + 1 + 1, 6, none⟩ (v6)).setCell ⟨w.heap.size + 1 + 1, 7, none⟩ (v7)).setCell ⟨w.heap.size + 1 + 1, 8, none⟩ (v8)) (uniR a b C cc rs' D cd ds') := fun v0 v1 v2 v3 v4 v5 v6 v7 v8 =>
          ⟨((((((((((HR.out.below hbN).set (Or.inr hs2)).set (Or.inr hs2)).set (Or.inr hs2)).set (Or.inr hs2)).set (Or.inr hs2)).set (Or.inr hs2)).set (Or.inr hs2)).set (Or.inr hs2)).set (Or.inr hs2)).to,
          ((((((((((HD.out.below hbN).set (Or.inr hs2)).set (Or.inr hs2)).set (Or.inr hs2)).set (Or.inr hs2)).set (Or.inr hs2)).set (Or.inr hs2)).set (Or.inr hs2)).set (Or.inr hs2)).set (Or.inr hs2)).to⟩
        have FIN := Lib.hid FIN
        have UO : Hid (UniOf a b (uniR a b C cc rs' D cd ds')) := Lib.hid ⟨rfl, rfl, rfl, rfl, rfl, rfl, rfl, HRS.out.symm, HDS.out.symm⟩
        clear hrc e0 e1 e2 e3 e4 e5 e6 e7 e8
        cases hu : (uniR a b C cc rs' D cd ds').may
        · have HUM := Lib.hid hu; clear hu
          go_wp2_with fail
          refine bodyPost_ret (v := .tuple #[.agg #[.bool false, .bool false, .bool false, .bool false, .bool false, .bool false, .bool false, .slice none 0 0, .slice none 0 0], .int .i64 1]) (by simp [results, Tryd.results38, go_sem, *]) rfl ⟨_, UO.out, FIN.out _ _ _ _ _ _ _ _ _, by repeat (first | (with_reducible assumption) | (with_reducible exact Below.refl _ _) | (with_reducible refine Below.drew ?_) | (with_reducible refine below_drewN' ?_ _) | (with_reducible refine below_al ?_) | ((with_reducible refine below_set ?_ ?_); rotate_left; focus (first | (simp; done) | (simp; omega)))), Or.inr ⟨HUM.out, rfl⟩⟩
        · have HUM := Lib.hid hu; clear hu
          go_wp2_with fail
          refine bodyPost_ret (v := .tuple #[.agg #[.bool (a.o0 || b.o0), .bool (a.o1 || b.o1), .bool (a.o2 || b.o2), .bool (a.o3 || b.o3), .bool (a.o4 || b.o4), .bool (a.o5 || b.o5), .bool (a.o6 || b.o6), .slice C rs'.length cc, .slice D ds'.length cd], .int .i64 0]) (by simp [results, Tryd.results38, go_sem, *]) rfl ⟨_, UO.out, FIN.out _ _ _ _ _ _ _ _ _, by repeat (first | (with_reducible assumption) | (with_reducible exact Below.refl _ _) | (with_reducible refine Below.drew ?_) | (with_reducible refine below_drewN' ?_ _) | (with_reducible refine below_al ?_) | ((with_reducible refine below_set ?_ ?_); rotate_left; focus (first | (simp; done) | (simp; omega)))), Or.inl ⟨HUM.out, rfl⟩⟩
/-! The law. -/
def UniY (p0 p1 p2 p3 p4 p5 p6 : Bool) (rs' : List R8) (ds' : List Int) (w : World) (e : Ending) (w' : World) : Prop := ∃ (A : Option Addr) (cR : Nat) (D : Option Addr) (cD : Nat), e = .returned (.tuple #[.agg #[.bool p0, .bool p1, .bool p2, .bool p3, .bool p4, .bool p5, .bool p6, .slice A rs'.length cR, .slice D ds'.length cD], .int .i64 0]) ∧ RIn w' A rs' ∧ DIn w' D ds' ∧ Below w.heap.size w w'
theorem uniY_of {a b u : CalP} {w w' : World} {e : Ending} (p0 p1 p2 p3 p4 p5 p6 : Bool) (hp : Hid ((a.o0 || b.o0) = p0 ∧ (a.o1 || b.o1) = p1 ∧ (a.o2 || b.o2) = p2 ∧ (a.o3 || b.o3) = p3 ∧ (a.o4 || b.o4) = p4 ∧ (a.o5 || b.o5) = p5 ∧ (a.o6 || b.o6) = p6)) (rs' : List R8) (hrs : Hid (a.rs ++ b.rs = rs')) (ds' : List Int) (hds : Hid (uds a.ds b.ds = ds')) (h : UniOf a b u) (hc : CalIn w' u) (hB : Below w.heap.size w w') (he : e = .returned (.tuple #[.agg #[.bool u.o0, .bool u.o1, .bool u.o2, .bool u.o3, .bool u.o4, .bool u.o5, .bool u.o6, .slice u.A u.rs.length u.cR, .slice u.D u.ds.length u.cD], .int .i64 0])) : UniY p0 p1 p2 p3 p4 p5 p6 rs' ds' w e w' := by
  obtain ⟨h0, h1, h2, h3, h4, h5, h6, hr, hd⟩ := h
  obtain ⟨q0, q1, q2, q3, q4, q5, q6⟩ := hp.out
  rw [q0] at h0; rw [q1] at h1; rw [q2] at h2; rw [q3] at h3; rw [q4] at h4; rw [q5] at h5; rw [q6] at h6; rw [hrs.out] at hr; rw [hds.out] at hd
  refine ⟨u.A, u.cR, u.D, u.cD, ?_, hr ▸ hc.r, hd ▸ hc.d, hB⟩
  rw [he, h0, h1, h2, h3, h4, h5, h6, hr, hd]
theorem uniY_c (a b : CalP) (ha : a.may = true) (hb : b.may = true) (fa : a.few = true) (fb : b.few = true) (hu : uopen a b = true) (p0 p1 p2 p3 p4 p5 p6 : Bool) (hp : Hid ((a.o0 || b.o0) = p0 ∧ (a.o1 || b.o1) = p1 ∧ (a.o2 || b.o2) = p2 ∧ (a.o3 || b.o3) = p3 ∧ (a.o4 || b.o4) = p4 ∧ (a.o5 || b.o5) = p5 ∧ (a.o6 || b.o6) = p6)) (rs' : List R8) (hrs : Hid (a.rs ++ b.rs = rs')) (ds' : List Int) (hds : Hid (uds a.ds b.ds = ds')) (w : World) (hL : Laid w) (hN : AllOff w) (ia : CalIn w a) (ib : CalIn w b) : Calls Tryd.prog 37 #[.agg #[.bool a.o0, .bool a.o1, .bool a.o2, .bool a.o3, .bool a.o4, .bool a.o5, .bool a.o6, .slice a.A a.rs.length a.cR, .slice a.D a.ds.length a.cD], .agg #[.bool b.o0, .bool b.o1, .bool b.o2, .bool b.o3, .bool b.o4, .bool b.o5, .bool b.o6, .slice b.A b.rs.length b.cR, .slice b.D b.ds.length b.cD]] w (UniY p0 p1 p2 p3 p4 p5 p6 rs' ds' w) :=
  (union_yes a b ha hb fa fb hu w hL hN ia ib).mono fun e w' ⟨u, h, hc, hm, hB, he⟩ => uniY_of p0 p1 p2 p3 p4 p5 p6 hp rs' hrs ds' hds h hc hB he
theorem runiY_c (a b : CalP) (ha : a.may = true) (hb : b.may = true) (fa : a.few = true) (fb : b.few = true) (hu : uopen a b = true) (p0 p1 p2 p3 p4 p5 p6 : Bool) (hp : Hid ((a.o0 || b.o0) = p0 ∧ (a.o1 || b.o1) = p1 ∧ (a.o2 || b.o2) = p2 ∧ (a.o3 || b.o3) = p3 ∧ (a.o4 || b.o4) = p4 ∧ (a.o5 || b.o5) = p5 ∧ (a.o6 || b.o6) = p6)) (rs' : List R8) (hrs : Hid (a.rs ++ b.rs = rs')) (ds' : List Int) (hds : Hid (uds a.ds b.ds = ds')) (w : World) (ia : CalIn w a) (ib : CalIn w b) : Calls Tryd.prog 38 #[.agg #[.bool a.o0, .bool a.o1, .bool a.o2, .bool a.o3, .bool a.o4, .bool a.o5, .bool a.o6, .slice a.A a.rs.length a.cR, .slice a.D a.ds.length a.cD], .agg #[.bool b.o0, .bool b.o1, .bool b.o2, .bool b.o3, .bool b.o4, .bool b.o5, .bool b.o6, .slice b.A b.rs.length b.cR, .slice b.D b.ds.length b.cD]] w (UniY p0 p1 p2 p3 p4 p5 p6 rs' ds' w) := by
  have f1 := few_len fa; have f2 := few_len fb
  refine (runion_c a b w ia ib (CalP.ris_pair _ (CalP.may_iff.1 ha).2.2.2.2.2) (CalP.ris_pair _ (CalP.may_iff.1 hb).2.2.2.2.2) (by omega) (by omega) (by omega) (by omega)).mono fun e w' ⟨u, h, hc, hB, hh⟩ => ?_
  have hm := uni_may h ha hb fa fb
  rcases hh with ⟨h1, h2⟩ | ⟨h1, h2⟩
  · exact uniY_of p0 p1 p2 p3 p4 p5 p6 hp rs' hrs ds' hds h hc hB h2
  · rw [hm, hu] at h1; cases h1
theorem runiN_c (a b : CalP) (ha : a.may = true) (hb : b.may = true) (fa : a.few = true) (fb : b.few = true) (hu : uopen a b = false) (w : World) (ia : CalIn w a) (ib : CalIn w b) : Calls Tryd.prog 38 #[.agg #[.bool a.o0, .bool a.o1, .bool a.o2, .bool a.o3, .bool a.o4, .bool a.o5, .bool a.o6, .slice a.A a.rs.length a.cR, .slice a.D a.ds.length a.cD], .agg #[.bool b.o0, .bool b.o1, .bool b.o2, .bool b.o3, .bool b.o4, .bool b.o5, .bool b.o6, .slice b.A b.rs.length b.cR, .slice b.D b.ds.length b.cD]] w (UnionNot w) := by
  have f1 := few_len fa; have f2 := few_len fb
  refine (runion_c a b w ia ib (CalP.ris_pair _ (CalP.may_iff.1 ha).2.2.2.2.2) (CalP.ris_pair _ (CalP.may_iff.1 hb).2.2.2.2.2) (by omega) (by omega) (by omega) (by omega)).mono fun e w' ⟨u, h, hc, hB, hh⟩ => ?_
  have hm := uni_may h ha hb fa fb
  rcases hh with ⟨h1, h2⟩ | ⟨h1, h2⟩
  · rw [hm, hu] at h1; cases h1
  · exact ⟨hB, h2⟩
theorem sameN_c (w : World) : Calls Tryd.prog 41 #[.agg #[.bool false, .bool false, .bool false, .bool false, .bool false, .bool false, .bool false, .slice none 0 0, .slice none 0 0], .agg #[.bool false, .bool false, .bool false, .bool false, .bool false, .bool false, .bool false, .slice none 0 0, .slice none 0 0]] w fun e w' => e = .returned (.bool true) ∧ Below w.heap.size w w' :=
  same_c false false false false false false false none none 0 0 [] none none 0 0 [] (Nat.zero_le _) (Nat.zero_le _) w (Or.inl rfl) (Or.inl rfl) (Or.inl rfl) (Or.inl rfl)
set_option maxRecDepth 100000 in
set_option maxHeartbeats 8000000 in
theorem calUnites_fa (a b : CalP) (n m : Int) (fa : a.few = false) (w : World) (hL : Laid w) (hN : AllOff w) (ia : CalIn w a) (ib : CalIn w b) : Calls Tryd.prog 10 #[.agg #[.bool a.o0, .bool a.o1, .bool a.o2, .bool a.o3, .bool a.o4, .bool a.o5, .bool a.o6, .slice a.A a.rs.length a.cR, .slice a.D a.ds.length a.cD, .bool b.o0, .bool b.o1, .bool b.o2, .bool b.o3, .bool b.o4, .bool b.o5, .bool b.o6, .slice b.A b.rs.length b.cR, .slice b.D b.ds.length b.cD, .int .i64 n, .int .i64 m]] w fun e w' => e = .returned (.bool true) ∧ Below w.heap.size w w' := by
  have hB : Below w.heap.size w w := Below.refl _ _
  go_enter Tryd.func10, Tryd.ntmps10
  (try go_simp); (repeat (first | ((with_reducible refine wp_region_app ?_); simp only [List.cons_append, List.nil_append]) | go_values | go_skip | go_guarded | go_step | go_upon))
  refine (shown13_c _ (hL.below (by repeat (first | assumption | exact Below.refl _ _ | (with_reducible refine Below.drew ?_) | (with_reducible refine below_drewN' ?_ _) | (with_reducible refine below_al ?_) | ((with_reducible refine below_set ?_ ?_); rotate_left; focus (first | (simp; done) | (simp; omega)))))) (hN.below (by repeat (first | assumption | exact Below.refl _ _ | (with_reducible refine Below.drew ?_) | (with_reducible refine below_drewN' ?_ _) | (with_reducible refine below_al ?_) | ((with_reducible refine below_set ?_ ?_); rotate_left; focus (first | (simp; done) | (simp; omega))))))).mono ?_; rintro e w1 ⟨rfl, hb1⟩
  have hz1 := hb1.size; (try simp at hz1); obtain ⟨hc1, hf1⟩ := bcell hb1; have hB1 := below_step (w := w) hb1 (by repeat (first | assumption | exact Below.refl _ _ | (with_reducible refine Below.drew ?_) | (with_reducible refine below_drewN' ?_ _) | (with_reducible refine below_al ?_) | ((with_reducible refine below_set ?_ ?_); rotate_left; focus (first | (simp; done) | (simp; omega)))))
  have le_w_w1 : w.heap.size ≤ w1.heap.size := by omega
  try have lt_w_w1 : w.heap.size < w1.heap.size := by omega
  have le1_w_w1 : w.heap.size + 1 ≤ w1.heap.size := by omega
  try have lt1_w_w1 : w.heap.size + 1 < w1.heap.size := by omega
  have le2_w_w1 : w.heap.size + 2 ≤ w1.heap.size := by omega
  try have lt2_w_w1 : w.heap.size + 2 < w1.heap.size := by omega
  (try go_simp); (repeat (first | ((with_reducible refine wp_region_app ?_); simp only [List.cons_append, List.nil_append]) | go_values | go_skip | go_guarded | go_step | go_upon))
  refine (few_c a _).mono ?_; rintro e w2 ⟨rfl, hb2⟩
  have hz2 := hb2.size; (try simp at hz2); obtain ⟨hc2, hf2⟩ := bcell hb2; have hB2 := below_step (w := w) hb2 (by repeat (first | assumption | exact Below.refl _ _ | (with_reducible refine Below.drew ?_) | (with_reducible refine below_drewN' ?_ _) | (with_reducible refine below_al ?_) | ((with_reducible refine below_set ?_ ?_); rotate_left; focus (first | (simp; done) | (simp; omega)))))
  have le_w_w2 : w.heap.size ≤ w2.heap.size := by omega
  try have lt_w_w2 : w.heap.size < w2.heap.size := by omega
  have le1_w_w2 : w.heap.size + 1 ≤ w2.heap.size := by omega
  try have lt1_w_w2 : w.heap.size + 1 < w2.heap.size := by omega
  have le2_w_w2 : w.heap.size + 2 ≤ w2.heap.size := by omega
  try have lt2_w_w2 : w.heap.size + 2 < w2.heap.size := by omega
  have le_w1_w2 : w1.heap.size ≤ w2.heap.size := by omega
  try have lt_w1_w2 : w1.heap.size < w2.heap.size := by omega
  (try go_simp); (repeat (first | ((with_reducible refine wp_region_app ?_); simp only [List.cons_append, List.nil_append]) | go_values | go_skip | go_guarded | go_step | go_upon))
  go_ret
  exact ⟨rfl, by repeat (first | assumption | exact Below.refl _ _ | (with_reducible refine Below.drew ?_) | (with_reducible refine below_drewN' ?_ _) | (with_reducible refine below_al ?_) | ((with_reducible refine below_set ?_ ?_); rotate_left; focus (first | (simp; done) | (simp; omega))))⟩
set_option maxRecDepth 100000 in
set_option maxHeartbeats 8000000 in
theorem calUnites_fb (a b : CalP) (n m : Int) (fa : a.few = true) (fb : b.few = false) (w : World) (hL : Laid w) (hN : AllOff w) (ia : CalIn w a) (ib : CalIn w b) : Calls Tryd.prog 10 #[.agg #[.bool a.o0, .bool a.o1, .bool a.o2, .bool a.o3, .bool a.o4, .bool a.o5, .bool a.o6, .slice a.A a.rs.length a.cR, .slice a.D a.ds.length a.cD, .bool b.o0, .bool b.o1, .bool b.o2, .bool b.o3, .bool b.o4, .bool b.o5, .bool b.o6, .slice b.A b.rs.length b.cR, .slice b.D b.ds.length b.cD, .int .i64 n, .int .i64 m]] w fun e w' => e = .returned (.bool true) ∧ Below w.heap.size w w' := by
  have hB : Below w.heap.size w w := Below.refl _ _
  go_enter Tryd.func10, Tryd.ntmps10
  (try go_simp); (repeat (first | ((with_reducible refine wp_region_app ?_); simp only [List.cons_append, List.nil_append]) | go_values | go_skip | go_guarded | go_step | go_upon))
  refine (shown13_c _ (hL.below (by repeat (first | assumption | exact Below.refl _ _ | (with_reducible refine Below.drew ?_) | (with_reducible refine below_drewN' ?_ _) | (with_reducible refine below_al ?_) | ((with_reducible refine below_set ?_ ?_); rotate_left; focus (first | (simp; done) | (simp; omega)))))) (hN.below (by repeat (first | assumption | exact Below.refl _ _ | (with_reducible refine Below.drew ?_) | (with_reducible refine below_drewN' ?_ _) | (with_reducible refine below_al ?_) | ((with_reducible refine below_set ?_ ?_); rotate_left; focus (first | (simp; done) | (simp; omega))))))).mono ?_; rintro e w1 ⟨rfl, hb1⟩
  have hz1 := hb1.size; (try simp at hz1); obtain ⟨hc1, hf1⟩ := bcell hb1; have hB1 := below_step (w := w) hb1 (by repeat (first | assumption | exact Below.refl _ _ | (with_reducible refine Below.drew ?_) | (with_reducible refine below_drewN' ?_ _) | (with_reducible refine below_al ?_) | ((with_reducible refine below_set ?_ ?_); rotate_left; focus (first | (simp; done) | (simp; omega)))))
  have le_w_w1 : w.heap.size ≤ w1.heap.size := by omega
  try have lt_w_w1 : w.heap.size < w1.heap.size := by omega
  have le1_w_w1 : w.heap.size + 1 ≤ w1.heap.size := by omega
  try have lt1_w_w1 : w.heap.size + 1 < w1.heap.size := by omega
  have le2_w_w1 : w.heap.size + 2 ≤ w1.heap.size := by omega
  try have lt2_w_w1 : w.heap.size + 2 < w1.heap.size := by omega
  (try go_simp); (repeat (first | ((with_reducible refine wp_region_app ?_); simp only [List.cons_append, List.nil_append]) | go_values | go_skip | go_guarded | go_step | go_upon))
  refine (few_c a _).mono ?_; rintro e w2 ⟨rfl, hb2⟩
  have hz2 := hb2.size; (try simp at hz2); obtain ⟨hc2, hf2⟩ := bcell hb2; have hB2 := below_step (w := w) hb2 (by repeat (first | assumption | exact Below.refl _ _ | (with_reducible refine Below.drew ?_) | (with_reducible refine below_drewN' ?_ _) | (with_reducible refine below_al ?_) | ((with_reducible refine below_set ?_ ?_); rotate_left; focus (first | (simp; done) | (simp; omega)))))
  have le_w_w2 : w.heap.size ≤ w2.heap.size := by omega
  try have lt_w_w2 : w.heap.size < w2.heap.size := by omega
  have le1_w_w2 : w.heap.size + 1 ≤ w2.heap.size := by omega
  try have lt1_w_w2 : w.heap.size + 1 < w2.heap.size := by omega
  have le2_w_w2 : w.heap.size + 2 ≤ w2.heap.size := by omega
  try have lt2_w_w2 : w.heap.size + 2 < w2.heap.size := by omega
  have le_w1_w2 : w1.heap.size ≤ w2.heap.size := by omega
  try have lt_w1_w2 : w1.heap.size < w2.heap.size := by omega
  (try go_simp); (repeat (first | ((with_reducible refine wp_region_app ?_); simp only [List.cons_append, List.nil_append]) | go_values | go_skip | go_guarded | go_step | go_upon))
  refine (few_c b _).mono ?_; rintro e w3 ⟨rfl, hb3⟩
  have hz3 := hb3.size; (try simp at hz3); obtain ⟨hc3, hf3⟩ := bcell hb3; have hB3 := below_step (w := w) hb3 (by repeat (first | assumption | exact Below.refl _ _ | (with_reducible refine Below.drew ?_) | (with_reducible refine below_drewN' ?_ _) | (with_reducible refine below_al ?_) | ((with_reducible refine below_set ?_ ?_); rotate_left; focus (first | (simp; done) | (simp; omega)))))
  have le_w_w3 : w.heap.size ≤ w3.heap.size := by omega
  try have lt_w_w3 : w.heap.size < w3.heap.size := by omega
  have le1_w_w3 : w.heap.size + 1 ≤ w3.heap.size := by omega
  try have lt1_w_w3 : w.heap.size + 1 < w3.heap.size := by omega
  have le2_w_w3 : w.heap.size + 2 ≤ w3.heap.size := by omega
  try have lt2_w_w3 : w.heap.size + 2 < w3.heap.size := by omega
  have le_w1_w3 : w1.heap.size ≤ w3.heap.size := by omega
  try have lt_w1_w3 : w1.heap.size < w3.heap.size := by omega
  have le_w2_w3 : w2.heap.size ≤ w3.heap.size := by omega
  try have lt_w2_w3 : w2.heap.size < w3.heap.size := by omega
  (try go_simp); (repeat (first | ((with_reducible refine wp_region_app ?_); simp only [List.cons_append, List.nil_append]) | go_values | go_skip | go_guarded | go_step | go_upon))
  go_ret
  exact ⟨rfl, by repeat (first | assumption | exact Below.refl _ _ | (with_reducible refine Below.drew ?_) | (with_reducible refine below_drewN' ?_ _) | (with_reducible refine below_al ?_) | ((with_reducible refine below_set ?_ ?_); rotate_left; focus (first | (simp; done) | (simp; omega))))⟩
set_option maxRecDepth 100000 in
set_option maxHeartbeats 8000000 in
theorem calUnites_ma (a b : CalP) (n m : Int) (fa : a.few = true) (fb : b.few = true) (ma : a.may = false) (w : World) (hL : Laid w) (hN : AllOff w) (ia : CalIn w a) (ib : CalIn w b) : Calls Tryd.prog 10 #[.agg #[.bool a.o0, .bool a.o1, .bool a.o2, .bool a.o3, .bool a.o4, .bool a.o5, .bool a.o6, .slice a.A a.rs.length a.cR, .slice a.D a.ds.length a.cD, .bool b.o0, .bool b.o1, .bool b.o2, .bool b.o3, .bool b.o4, .bool b.o5, .bool b.o6, .slice b.A b.rs.length b.cR, .slice b.D b.ds.length b.cD, .int .i64 n, .int .i64 m]] w fun e w' => e = .returned (.bool true) ∧ Below w.heap.size w w' := by
  have hB : Below w.heap.size w w := Below.refl _ _
  go_enter Tryd.func10, Tryd.ntmps10
  (try go_simp); (repeat (first | ((with_reducible refine wp_region_app ?_); simp only [List.cons_append, List.nil_append]) | go_values | go_skip | go_guarded | go_step | go_upon))
  refine (shown13_c _ (hL.below (by repeat (first | assumption | exact Below.refl _ _ | (with_reducible refine Below.drew ?_) | (with_reducible refine below_drewN' ?_ _) | (with_reducible refine below_al ?_) | ((with_reducible refine below_set ?_ ?_); rotate_left; focus (first | (simp; done) | (simp; omega)))))) (hN.below (by repeat (first | assumption | exact Below.refl _ _ | (with_reducible refine Below.drew ?_) | (with_reducible refine below_drewN' ?_ _) | (with_reducible refine below_al ?_) | ((with_reducible refine below_set ?_ ?_); rotate_left; focus (first | (simp; done) | (simp; omega))))))).mono ?_; rintro e w1 ⟨rfl, hb1⟩
  have hz1 := hb1.size; (try simp at hz1); obtain ⟨hc1, hf1⟩ := bcell hb1; have hB1 := below_step (w := w) hb1 (by repeat (first | assumption | exact Below.refl _ _ | (with_reducible refine Below.drew ?_) | (with_reducible refine below_drewN' ?_ _) | (with_reducible refine below_al ?_) | ((with_reducible refine below_set ?_ ?_); rotate_left; focus (first | (simp; done) | (simp; omega)))))
  have le_w_w1 : w.heap.size ≤ w1.heap.size := by omega
  try have lt_w_w1 : w.heap.size < w1.heap.size := by omega
  have le1_w_w1 : w.heap.size + 1 ≤ w1.heap.size := by omega
  try have lt1_w_w1 : w.heap.size + 1 < w1.heap.size := by omega
  have le2_w_w1 : w.heap.size + 2 ≤ w1.heap.size := by omega
  try have lt2_w_w1 : w.heap.size + 2 < w1.heap.size := by omega
  (try go_simp); (repeat (first | ((with_reducible refine wp_region_app ?_); simp only [List.cons_append, List.nil_append]) | go_values | go_skip | go_guarded | go_step | go_upon))
  refine (few_c a _).mono ?_; rintro e w2 ⟨rfl, hb2⟩
  have hz2 := hb2.size; (try simp at hz2); obtain ⟨hc2, hf2⟩ := bcell hb2; have hB2 := below_step (w := w) hb2 (by repeat (first | assumption | exact Below.refl _ _ | (with_reducible refine Below.drew ?_) | (with_reducible refine below_drewN' ?_ _) | (with_reducible refine below_al ?_) | ((with_reducible refine below_set ?_ ?_); rotate_left; focus (first | (simp; done) | (simp; omega)))))
  have le_w_w2 : w.heap.size ≤ w2.heap.size := by omega
  try have lt_w_w2 : w.heap.size < w2.heap.size := by omega
  have le1_w_w2 : w.heap.size + 1 ≤ w2.heap.size := by omega
  try have lt1_w_w2 : w.heap.size + 1 < w2.heap.size := by omega
  have le2_w_w2 : w.heap.size + 2 ≤ w2.heap.size := by omega
  try have lt2_w_w2 : w.heap.size + 2 < w2.heap.size := by omega
  have le_w1_w2 : w1.heap.size ≤ w2.heap.size := by omega
  try have lt_w1_w2 : w1.heap.size < w2.heap.size := by omega
  (try go_simp); (repeat (first | ((with_reducible refine wp_region_app ?_); simp only [List.cons_append, List.nil_append]) | go_values | go_skip | go_guarded | go_step | go_upon))
  refine (few_c b _).mono ?_; rintro e w3 ⟨rfl, hb3⟩
  have hz3 := hb3.size; (try simp at hz3); obtain ⟨hc3, hf3⟩ := bcell hb3; have hB3 := below_step (w := w) hb3 (by repeat (first | assumption | exact Below.refl _ _ | (with_reducible refine Below.drew ?_) | (with_reducible refine below_drewN' ?_ _) | (with_reducible refine below_al ?_) | ((with_reducible refine below_set ?_ ?_); rotate_left; focus (first | (simp; done) | (simp; omega)))))
  have le_w_w3 : w.heap.size ≤ w3.heap.size := by omega
  try have lt_w_w3 : w.heap.size < w3.heap.size := by omega
  have le1_w_w3 : w.heap.size + 1 ≤ w3.heap.size := by omega
  try have lt1_w_w3 : w.heap.size + 1 < w3.heap.size := by omega
  have le2_w_w3 : w.heap.size + 2 ≤ w3.heap.size := by omega
  try have lt2_w_w3 : w.heap.size + 2 < w3.heap.size := by omega
  have le_w1_w3 : w1.heap.size ≤ w3.heap.size := by omega
  try have lt_w1_w3 : w1.heap.size < w3.heap.size := by omega
  have le_w2_w3 : w2.heap.size ≤ w3.heap.size := by omega
  try have lt_w2_w3 : w2.heap.size < w3.heap.size := by omega
  (try go_simp); (repeat (first | ((with_reducible refine wp_region_app ?_); simp only [List.cons_append, List.nil_append]) | go_values | go_skip | go_guarded | go_step | go_upon))
  refine (rcalMay_c a _ (ia.below (by repeat (first | assumption | exact Below.refl _ _ | (with_reducible refine Below.drew ?_) | (with_reducible refine below_drewN' ?_ _) | (with_reducible refine below_al ?_) | ((with_reducible refine below_set ?_ ?_); rotate_left; focus (first | (simp; done) | (simp; omega))))))).mono ?_; rintro e w4 ⟨rfl, hb4⟩
  have hz4 := hb4.size; (try simp at hz4); obtain ⟨hc4, hf4⟩ := bcell hb4; have hB4 := below_step (w := w) hb4 (by repeat (first | assumption | exact Below.refl _ _ | (with_reducible refine Below.drew ?_) | (with_reducible refine below_drewN' ?_ _) | (with_reducible refine below_al ?_) | ((with_reducible refine below_set ?_ ?_); rotate_left; focus (first | (simp; done) | (simp; omega)))))
  have le_w_w4 : w.heap.size ≤ w4.heap.size := by omega
  try have lt_w_w4 : w.heap.size < w4.heap.size := by omega
  have le1_w_w4 : w.heap.size + 1 ≤ w4.heap.size := by omega
  try have lt1_w_w4 : w.heap.size + 1 < w4.heap.size := by omega
  have le2_w_w4 : w.heap.size + 2 ≤ w4.heap.size := by omega
  try have lt2_w_w4 : w.heap.size + 2 < w4.heap.size := by omega
  have le_w1_w4 : w1.heap.size ≤ w4.heap.size := by omega
  try have lt_w1_w4 : w1.heap.size < w4.heap.size := by omega
  have le_w2_w4 : w2.heap.size ≤ w4.heap.size := by omega
  try have lt_w2_w4 : w2.heap.size < w4.heap.size := by omega
  have le_w3_w4 : w3.heap.size ≤ w4.heap.size := by omega
  try have lt_w3_w4 : w3.heap.size < w4.heap.size := by omega
  (try go_simp); (repeat (first | ((with_reducible refine wp_region_app ?_); simp only [List.cons_append, List.nil_append]) | go_values | go_skip | go_guarded | go_step | go_upon))
  go_ret
  exact ⟨rfl, by repeat (first | assumption | exact Below.refl _ _ | (with_reducible refine Below.drew ?_) | (with_reducible refine below_drewN' ?_ _) | (with_reducible refine below_al ?_) | ((with_reducible refine below_set ?_ ?_); rotate_left; focus (first | (simp; done) | (simp; omega))))⟩
set_option maxRecDepth 100000 in
set_option maxHeartbeats 8000000 in
theorem calUnites_mb (a b : CalP) (n m : Int) (fa : a.few = true) (fb : b.few = true) (ma : a.may = true) (mb : b.may = false) (w : World) (hL : Laid w) (hN : AllOff w) (ia : CalIn w a) (ib : CalIn w b) : Calls Tryd.prog 10 #[.agg #[.bool a.o0, .bool a.o1, .bool a.o2, .bool a.o3, .bool a.o4, .bool a.o5, .bool a.o6, .slice a.A a.rs.length a.cR, .slice a.D a.ds.length a.cD, .bool b.o0, .bool b.o1, .bool b.o2, .bool b.o3, .bool b.o4, .bool b.o5, .bool b.o6, .slice b.A b.rs.length b.cR, .slice b.D b.ds.length b.cD, .int .i64 n, .int .i64 m]] w fun e w' => e = .returned (.bool true) ∧ Below w.heap.size w w' := by
  have hB : Below w.heap.size w w := Below.refl _ _
  go_enter Tryd.func10, Tryd.ntmps10
  (try go_simp); (repeat (first | ((with_reducible refine wp_region_app ?_); simp only [List.cons_append, List.nil_append]) | go_values | go_skip | go_guarded | go_step | go_upon))
  refine (shown13_c _ (hL.below (by repeat (first | assumption | exact Below.refl _ _ | (with_reducible refine Below.drew ?_) | (with_reducible refine below_drewN' ?_ _) | (with_reducible refine below_al ?_) | ((with_reducible refine below_set ?_ ?_); rotate_left; focus (first | (simp; done) | (simp; omega)))))) (hN.below (by repeat (first | assumption | exact Below.refl _ _ | (with_reducible refine Below.drew ?_) | (with_reducible refine below_drewN' ?_ _) | (with_reducible refine below_al ?_) | ((with_reducible refine below_set ?_ ?_); rotate_left; focus (first | (simp; done) | (simp; omega))))))).mono ?_; rintro e w1 ⟨rfl, hb1⟩
  have hz1 := hb1.size; (try simp at hz1); obtain ⟨hc1, hf1⟩ := bcell hb1; have hB1 := below_step (w := w) hb1 (by repeat (first | assumption | exact Below.refl _ _ | (with_reducible refine Below.drew ?_) | (with_reducible refine below_drewN' ?_ _) | (with_reducible refine below_al ?_) | ((with_reducible refine below_set ?_ ?_); rotate_left; focus (first | (simp; done) | (simp; omega)))))
  have le_w_w1 : w.heap.size ≤ w1.heap.size := by omega
  try have lt_w_w1 : w.heap.size < w1.heap.size := by omega
  have le1_w_w1 : w.heap.size + 1 ≤ w1.heap.size := by omega
  try have lt1_w_w1 : w.heap.size + 1 < w1.heap.size := by omega
  have le2_w_w1 : w.heap.size + 2 ≤ w1.heap.size := by omega
  try have lt2_w_w1 : w.heap.size + 2 < w1.heap.size := by omega
  (try go_simp); (repeat (first | ((with_reducible refine wp_region_app ?_); simp only [List.cons_append, List.nil_append]) | go_values | go_skip | go_guarded | go_step | go_upon))
  refine (few_c a _).mono ?_; rintro e w2 ⟨rfl, hb2⟩
  have hz2 := hb2.size; (try simp at hz2); obtain ⟨hc2, hf2⟩ := bcell hb2; have hB2 := below_step (w := w) hb2 (by repeat (first | assumption | exact Below.refl _ _ | (with_reducible refine Below.drew ?_) | (with_reducible refine below_drewN' ?_ _) | (with_reducible refine below_al ?_) | ((with_reducible refine below_set ?_ ?_); rotate_left; focus (first | (simp; done) | (simp; omega)))))
  have le_w_w2 : w.heap.size ≤ w2.heap.size := by omega
  try have lt_w_w2 : w.heap.size < w2.heap.size := by omega
  have le1_w_w2 : w.heap.size + 1 ≤ w2.heap.size := by omega
  try have lt1_w_w2 : w.heap.size + 1 < w2.heap.size := by omega
  have le2_w_w2 : w.heap.size + 2 ≤ w2.heap.size := by omega
  try have lt2_w_w2 : w.heap.size + 2 < w2.heap.size := by omega
  have le_w1_w2 : w1.heap.size ≤ w2.heap.size := by omega
  try have lt_w1_w2 : w1.heap.size < w2.heap.size := by omega
  (try go_simp); (repeat (first | ((with_reducible refine wp_region_app ?_); simp only [List.cons_append, List.nil_append]) | go_values | go_skip | go_guarded | go_step | go_upon))
  refine (few_c b _).mono ?_; rintro e w3 ⟨rfl, hb3⟩
  have hz3 := hb3.size; (try simp at hz3); obtain ⟨hc3, hf3⟩ := bcell hb3; have hB3 := below_step (w := w) hb3 (by repeat (first | assumption | exact Below.refl _ _ | (with_reducible refine Below.drew ?_) | (with_reducible refine below_drewN' ?_ _) | (with_reducible refine below_al ?_) | ((with_reducible refine below_set ?_ ?_); rotate_left; focus (first | (simp; done) | (simp; omega)))))
  have le_w_w3 : w.heap.size ≤ w3.heap.size := by omega
  try have lt_w_w3 : w.heap.size < w3.heap.size := by omega
  have le1_w_w3 : w.heap.size + 1 ≤ w3.heap.size := by omega
  try have lt1_w_w3 : w.heap.size + 1 < w3.heap.size := by omega
  have le2_w_w3 : w.heap.size + 2 ≤ w3.heap.size := by omega
  try have lt2_w_w3 : w.heap.size + 2 < w3.heap.size := by omega
  have le_w1_w3 : w1.heap.size ≤ w3.heap.size := by omega
  try have lt_w1_w3 : w1.heap.size < w3.heap.size := by omega
  have le_w2_w3 : w2.heap.size ≤ w3.heap.size := by omega
  try have lt_w2_w3 : w2.heap.size < w3.heap.size := by omega
  (try go_simp); (repeat (first | ((with_reducible refine wp_region_app ?_); simp only [List.cons_append, List.nil_append]) | go_values | go_skip | go_guarded | go_step | go_upon))
  refine (rcalMay_c a _ (ia.below (by repeat (first | assumption | exact Below.refl _ _ | (with_reducible refine Below.drew ?_) | (with_reducible refine below_drewN' ?_ _) | (with_reducible refine below_al ?_) | ((with_reducible refine below_set ?_ ?_); rotate_left; focus (first | (simp; done) | (simp; omega))))))).mono ?_; rintro e w4 ⟨rfl, hb4⟩
  have hz4 := hb4.size; (try simp at hz4); obtain ⟨hc4, hf4⟩ := bcell hb4; have hB4 := below_step (w := w) hb4 (by repeat (first | assumption | exact Below.refl _ _ | (with_reducible refine Below.drew ?_) | (with_reducible refine below_drewN' ?_ _) | (with_reducible refine below_al ?_) | ((with_reducible refine below_set ?_ ?_); rotate_left; focus (first | (simp; done) | (simp; omega)))))
  have le_w_w4 : w.heap.size ≤ w4.heap.size := by omega
  try have lt_w_w4 : w.heap.size < w4.heap.size := by omega
  have le1_w_w4 : w.heap.size + 1 ≤ w4.heap.size := by omega
  try have lt1_w_w4 : w.heap.size + 1 < w4.heap.size := by omega
  have le2_w_w4 : w.heap.size + 2 ≤ w4.heap.size := by omega
  try have lt2_w_w4 : w.heap.size + 2 < w4.heap.size := by omega
  have le_w1_w4 : w1.heap.size ≤ w4.heap.size := by omega
  try have lt_w1_w4 : w1.heap.size < w4.heap.size := by omega
  have le_w2_w4 : w2.heap.size ≤ w4.heap.size := by omega
  try have lt_w2_w4 : w2.heap.size < w4.heap.size := by omega
  have le_w3_w4 : w3.heap.size ≤ w4.heap.size := by omega
  try have lt_w3_w4 : w3.heap.size < w4.heap.size := by omega
  (try go_simp); (repeat (first | ((with_reducible refine wp_region_app ?_); simp only [List.cons_append, List.nil_append]) | go_values | go_skip | go_guarded | go_step | go_upon))
  refine (rcalMay_c b _ (ib.below (by repeat (first | assumption | exact Below.refl _ _ | (with_reducible refine Below.drew ?_) | (with_reducible refine below_drewN' ?_ _) | (with_reducible refine below_al ?_) | ((with_reducible refine below_set ?_ ?_); rotate_left; focus (first | (simp; done) | (simp; omega))))))).mono ?_; rintro e w5 ⟨rfl, hb5⟩
  have hz5 := hb5.size; (try simp at hz5); obtain ⟨hc5, hf5⟩ := bcell hb5; have hB5 := below_step (w := w) hb5 (by repeat (first | assumption | exact Below.refl _ _ | (with_reducible refine Below.drew ?_) | (with_reducible refine below_drewN' ?_ _) | (with_reducible refine below_al ?_) | ((with_reducible refine below_set ?_ ?_); rotate_left; focus (first | (simp; done) | (simp; omega)))))
  have le_w_w5 : w.heap.size ≤ w5.heap.size := by omega
  try have lt_w_w5 : w.heap.size < w5.heap.size := by omega
  have le1_w_w5 : w.heap.size + 1 ≤ w5.heap.size := by omega
  try have lt1_w_w5 : w.heap.size + 1 < w5.heap.size := by omega
  have le2_w_w5 : w.heap.size + 2 ≤ w5.heap.size := by omega
  try have lt2_w_w5 : w.heap.size + 2 < w5.heap.size := by omega
  have le_w1_w5 : w1.heap.size ≤ w5.heap.size := by omega
  try have lt_w1_w5 : w1.heap.size < w5.heap.size := by omega
  have le_w2_w5 : w2.heap.size ≤ w5.heap.size := by omega
  try have lt_w2_w5 : w2.heap.size < w5.heap.size := by omega
  have le_w3_w5 : w3.heap.size ≤ w5.heap.size := by omega
  try have lt_w3_w5 : w3.heap.size < w5.heap.size := by omega
  have le_w4_w5 : w4.heap.size ≤ w5.heap.size := by omega
  try have lt_w4_w5 : w4.heap.size < w5.heap.size := by omega
  (try go_simp); (repeat (first | ((with_reducible refine wp_region_app ?_); simp only [List.cons_append, List.nil_append]) | go_values | go_skip | go_guarded | go_step | go_upon))
  go_ret
  exact ⟨rfl, by repeat (first | assumption | exact Below.refl _ _ | (with_reducible refine Below.drew ?_) | (with_reducible refine below_drewN' ?_ _) | (with_reducible refine below_al ?_) | ((with_reducible refine below_set ?_ ?_); rotate_left; focus (first | (simp; done) | (simp; omega))))⟩
set_option maxRecDepth 100000 in
set_option maxHeartbeats 8000000 in
theorem calUnites_g4 (a b : CalP) (n m : Int) (fa : a.few = true) (fb : b.few = true) (ma : a.may = true) (mb : b.may = true) (t1 : decide (n < m) = true) (d : Int) (sd : IntKind.i64.wrap (m - n) = d) (t2 : decide (100 < d) = true) (t3 : decide (d ≤ 4000) = true)  (w : World) (hL : Laid w) (hN : AllOff w) (ia : CalIn w a) (ib : CalIn w b) : Calls Tryd.prog 10 #[.agg #[.bool a.o0, .bool a.o1, .bool a.o2, .bool a.o3, .bool a.o4, .bool a.o5, .bool a.o6, .slice a.A a.rs.length a.cR, .slice a.D a.ds.length a.cD, .bool b.o0, .bool b.o1, .bool b.o2, .bool b.o3, .bool b.o4, .bool b.o5, .bool b.o6, .slice b.A b.rs.length b.cR, .slice b.D b.ds.length b.cD, .int .i64 n, .int .i64 m]] w fun e w' => e = .returned (.bool true) ∧ Below w.heap.size w w' := by
  have hB : Below w.heap.size w w := Below.refl _ _
  go_enter Tryd.func10, Tryd.ntmps10
  (try go_simp); (repeat (first | ((with_reducible refine wp_region_app ?_); simp only [List.cons_append, List.nil_append]) | go_values | go_skip | go_guarded | go_step | go_upon))
  refine (shown13_c _ (hL.below (by repeat (first | assumption | exact Below.refl _ _ | (with_reducible refine Below.drew ?_) | (with_reducible refine below_drewN' ?_ _) | (with_reducible refine below_al ?_) | ((with_reducible refine below_set ?_ ?_); rotate_left; focus (first | (simp; done) | (simp; omega)))))) (hN.below (by repeat (first | assumption | exact Below.refl _ _ | (with_reducible refine Below.drew ?_) | (with_reducible refine below_drewN' ?_ _) | (with_reducible refine below_al ?_) | ((with_reducible refine below_set ?_ ?_); rotate_left; focus (first | (simp; done) | (simp; omega))))))).mono ?_; rintro e w1 ⟨rfl, hb1⟩
  have hz1 := hb1.size; (try simp at hz1); obtain ⟨hc1, hf1⟩ := bcell hb1; have hB1 := below_step (w := w) hb1 (by repeat (first | assumption | exact Below.refl _ _ | (with_reducible refine Below.drew ?_) | (with_reducible refine below_drewN' ?_ _) | (with_reducible refine below_al ?_) | ((with_reducible refine below_set ?_ ?_); rotate_left; focus (first | (simp; done) | (simp; omega)))))
  have le_w_w1 : w.heap.size ≤ w1.heap.size := by omega
  try have lt_w_w1 : w.heap.size < w1.heap.size := by omega
  have le1_w_w1 : w.heap.size + 1 ≤ w1.heap.size := by omega
  try have lt1_w_w1 : w.heap.size + 1 < w1.heap.size := by omega
  have le2_w_w1 : w.heap.size + 2 ≤ w1.heap.size := by omega
  try have lt2_w_w1 : w.heap.size + 2 < w1.heap.size := by omega
  (try go_simp); (repeat (first | ((with_reducible refine wp_region_app ?_); simp only [List.cons_append, List.nil_append]) | go_values | go_skip | go_guarded | go_step | go_upon))
  refine (few_c a _).mono ?_; rintro e w2 ⟨rfl, hb2⟩
  have hz2 := hb2.size; (try simp at hz2); obtain ⟨hc2, hf2⟩ := bcell hb2; have hB2 := below_step (w := w) hb2 (by repeat (first | assumption | exact Below.refl _ _ | (with_reducible refine Below.drew ?_) | (with_reducible refine below_drewN' ?_ _) | (with_reducible refine below_al ?_) | ((with_reducible refine below_set ?_ ?_); rotate_left; focus (first | (simp; done) | (simp; omega)))))
  have le_w_w2 : w.heap.size ≤ w2.heap.size := by omega
  try have lt_w_w2 : w.heap.size < w2.heap.size := by omega
  have le1_w_w2 : w.heap.size + 1 ≤ w2.heap.size := by omega
  try have lt1_w_w2 : w.heap.size + 1 < w2.heap.size := by omega
  have le2_w_w2 : w.heap.size + 2 ≤ w2.heap.size := by omega
  try have lt2_w_w2 : w.heap.size + 2 < w2.heap.size := by omega
  have le_w1_w2 : w1.heap.size ≤ w2.heap.size := by omega
  try have lt_w1_w2 : w1.heap.size < w2.heap.size := by omega
  (try go_simp); (repeat (first | ((with_reducible refine wp_region_app ?_); simp only [List.cons_append, List.nil_append]) | go_values | go_skip | go_guarded | go_step | go_upon))
  refine (few_c b _).mono ?_; rintro e w3 ⟨rfl, hb3⟩
  have hz3 := hb3.size; (try simp at hz3); obtain ⟨hc3, hf3⟩ := bcell hb3; have hB3 := below_step (w := w) hb3 (by repeat (first | assumption | exact Below.refl _ _ | (with_reducible refine Below.drew ?_) | (with_reducible refine below_drewN' ?_ _) | (with_reducible refine below_al ?_) | ((with_reducible refine below_set ?_ ?_); rotate_left; focus (first | (simp; done) | (simp; omega)))))
  have le_w_w3 : w.heap.size ≤ w3.heap.size := by omega
  try have lt_w_w3 : w.heap.size < w3.heap.size := by omega
  have le1_w_w3 : w.heap.size + 1 ≤ w3.heap.size := by omega
  try have lt1_w_w3 : w.heap.size + 1 < w3.heap.size := by omega
  have le2_w_w3 : w.heap.size + 2 ≤ w3.heap.size := by omega
  try have lt2_w_w3 : w.heap.size + 2 < w3.heap.size := by omega
  have le_w1_w3 : w1.heap.size ≤ w3.heap.size := by omega
  try have lt_w1_w3 : w1.heap.size < w3.heap.size := by omega
  have le_w2_w3 : w2.heap.size ≤ w3.heap.size := by omega
  try have lt_w2_w3 : w2.heap.size < w3.heap.size := by omega
  (try go_simp); (repeat (first | ((with_reducible refine wp_region_app ?_); simp only [List.cons_append, List.nil_append]) | go_values | go_skip | go_guarded | go_step | go_upon))
  refine (rcalMay_c a _ (ia.below (by repeat (first | assumption | exact Below.refl _ _ | (with_reducible refine Below.drew ?_) | (with_reducible refine below_drewN' ?_ _) | (with_reducible refine below_al ?_) | ((with_reducible refine below_set ?_ ?_); rotate_left; focus (first | (simp; done) | (simp; omega))))))).mono ?_; rintro e w4 ⟨rfl, hb4⟩
  have hz4 := hb4.size; (try simp at hz4); obtain ⟨hc4, hf4⟩ := bcell hb4; have hB4 := below_step (w := w) hb4 (by repeat (first | assumption | exact Below.refl _ _ | (with_reducible refine Below.drew ?_) | (with_reducible refine below_drewN' ?_ _) | (with_reducible refine below_al ?_) | ((with_reducible refine below_set ?_ ?_); rotate_left; focus (first | (simp; done) | (simp; omega)))))
  have le_w_w4 : w.heap.size ≤ w4.heap.size := by omega
  try have lt_w_w4 : w.heap.size < w4.heap.size := by omega
  have le1_w_w4 : w.heap.size + 1 ≤ w4.heap.size := by omega
  try have lt1_w_w4 : w.heap.size + 1 < w4.heap.size := by omega
  have le2_w_w4 : w.heap.size + 2 ≤ w4.heap.size := by omega
  try have lt2_w_w4 : w.heap.size + 2 < w4.heap.size := by omega
  have le_w1_w4 : w1.heap.size ≤ w4.heap.size := by omega
  try have lt_w1_w4 : w1.heap.size < w4.heap.size := by omega
  have le_w2_w4 : w2.heap.size ≤ w4.heap.size := by omega
  try have lt_w2_w4 : w2.heap.size < w4.heap.size := by omega
  have le_w3_w4 : w3.heap.size ≤ w4.heap.size := by omega
  try have lt_w3_w4 : w3.heap.size < w4.heap.size := by omega
  (try go_simp); (repeat (first | ((with_reducible refine wp_region_app ?_); simp only [List.cons_append, List.nil_append]) | go_values | go_skip | go_guarded | go_step | go_upon))
  refine (rcalMay_c b _ (ib.below (by repeat (first | assumption | exact Below.refl _ _ | (with_reducible refine Below.drew ?_) | (with_reducible refine below_drewN' ?_ _) | (with_reducible refine below_al ?_) | ((with_reducible refine below_set ?_ ?_); rotate_left; focus (first | (simp; done) | (simp; omega))))))).mono ?_; rintro e w5 ⟨rfl, hb5⟩
  have hz5 := hb5.size; (try simp at hz5); obtain ⟨hc5, hf5⟩ := bcell hb5; have hB5 := below_step (w := w) hb5 (by repeat (first | assumption | exact Below.refl _ _ | (with_reducible refine Below.drew ?_) | (with_reducible refine below_drewN' ?_ _) | (with_reducible refine below_al ?_) | ((with_reducible refine below_set ?_ ?_); rotate_left; focus (first | (simp; done) | (simp; omega)))))
  have le_w_w5 : w.heap.size ≤ w5.heap.size := by omega
  try have lt_w_w5 : w.heap.size < w5.heap.size := by omega
  have le1_w_w5 : w.heap.size + 1 ≤ w5.heap.size := by omega
  try have lt1_w_w5 : w.heap.size + 1 < w5.heap.size := by omega
  have le2_w_w5 : w.heap.size + 2 ≤ w5.heap.size := by omega
  try have lt2_w_w5 : w.heap.size + 2 < w5.heap.size := by omega
  have le_w1_w5 : w1.heap.size ≤ w5.heap.size := by omega
  try have lt_w1_w5 : w1.heap.size < w5.heap.size := by omega
  have le_w2_w5 : w2.heap.size ≤ w5.heap.size := by omega
  try have lt_w2_w5 : w2.heap.size < w5.heap.size := by omega
  have le_w3_w5 : w3.heap.size ≤ w5.heap.size := by omega
  try have lt_w3_w5 : w3.heap.size < w5.heap.size := by omega
  have le_w4_w5 : w4.heap.size ≤ w5.heap.size := by omega
  try have lt_w4_w5 : w4.heap.size < w5.heap.size := by omega
  (try go_simp); (repeat (first | ((with_reducible refine wp_region_app ?_); simp only [List.cons_append, List.nil_append]) | go_values | go_skip | go_guarded | go_step | go_upon))
  go_ret
  exact ⟨rfl, by repeat (first | assumption | exact Below.refl _ _ | (with_reducible refine Below.drew ?_) | (with_reducible refine below_drewN' ?_ _) | (with_reducible refine below_al ?_) | ((with_reducible refine below_set ?_ ?_); rotate_left; focus (first | (simp; done) | (simp; omega))))⟩
set_option maxRecDepth 100000 in
set_option maxHeartbeats 8000000 in
theorem calUnites_g1y (a b : CalP) (n m : Int) (fa : a.few = true) (fb : b.few = true) (ma : a.may = true) (mb : b.may = true) (t1 : decide (n < m) = false) (x c : Int) (hR : Hid (many a n m = (x, c))) (sc : IntKind.i64.wrap c = c) (sx : (x == x) = true) (scc : (c == c) = true) (uab : uopen a b = true) (p0 p1 p2 p3 p4 p5 p6 : Bool) (hp : Hid ((a.o0 || b.o0) = p0 ∧ (a.o1 || b.o1) = p1 ∧ (a.o2 || b.o2) = p2 ∧ (a.o3 || b.o3) = p3 ∧ (a.o4 || b.o4) = p4 ∧ (a.o5 || b.o5) = p5 ∧ (a.o6 || b.o6) = p6)) (rs' : List R8) (hrs : Hid (a.rs ++ b.rs = rs')) (ds' : List Int) (hds : Hid (uds a.ds b.ds = ds')) (lr : rs'.length ≤ 1000000) (ld : ds'.length ≤ 1000000)  (w : World) (hL : Laid w) (hN : AllOff w) (ia : CalIn w a) (ib : CalIn w b) : Calls Tryd.prog 10 #[.agg #[.bool a.o0, .bool a.o1, .bool a.o2, .bool a.o3, .bool a.o4, .bool a.o5, .bool a.o6, .slice a.A a.rs.length a.cR, .slice a.D a.ds.length a.cD, .bool b.o0, .bool b.o1, .bool b.o2, .bool b.o3, .bool b.o4, .bool b.o5, .bool b.o6, .slice b.A b.rs.length b.cR, .slice b.D b.ds.length b.cD, .int .i64 n, .int .i64 m]] w fun e w' => e = .returned (.bool true) ∧ Below w.heap.size w w' := by
  have hka := Lib.hid (CalP.ok ma)
  have UAB := Lib.hid uab; clear uab
  have HMA := Lib.hid ma; have HMB := Lib.hid mb; have HFA := Lib.hid fa; have HFB := Lib.hid fb
  have hB : Below w.heap.size w w := Below.refl _ _
  go_enter Tryd.func10, Tryd.ntmps10
  (try go_simp); (repeat (first | ((with_reducible refine wp_region_app ?_); simp only [List.cons_append, List.nil_append]) | go_values | go_skip | go_guarded | go_step | go_upon))
  refine (shown13_c _ (hL.below (by repeat (first | assumption | exact Below.refl _ _ | (with_reducible refine Below.drew ?_) | (with_reducible refine below_drewN' ?_ _) | (with_reducible refine below_al ?_) | ((with_reducible refine below_set ?_ ?_); rotate_left; focus (first | (simp; done) | (simp; omega)))))) (hN.below (by repeat (first | assumption | exact Below.refl _ _ | (with_reducible refine Below.drew ?_) | (with_reducible refine below_drewN' ?_ _) | (with_reducible refine below_al ?_) | ((with_reducible refine below_set ?_ ?_); rotate_left; focus (first | (simp; done) | (simp; omega))))))).mono ?_; rintro e w1 ⟨rfl, hb1⟩
  have hz1 := hb1.size; (try simp at hz1); obtain ⟨hc1, hf1⟩ := bcell hb1; have hB1 := below_step (w := w) hb1 (by repeat (first | assumption | exact Below.refl _ _ | (with_reducible refine Below.drew ?_) | (with_reducible refine below_drewN' ?_ _) | (with_reducible refine below_al ?_) | ((with_reducible refine below_set ?_ ?_); rotate_left; focus (first | (simp; done) | (simp; omega)))))
  have le_w_w1 : w.heap.size ≤ w1.heap.size := by omega
  try have lt_w_w1 : w.heap.size < w1.heap.size := by omega
  have le1_w_w1 : w.heap.size + 1 ≤ w1.heap.size := by omega
  try have lt1_w_w1 : w.heap.size + 1 < w1.heap.size := by omega
  have le2_w_w1 : w.heap.size + 2 ≤ w1.heap.size := by omega
  try have lt2_w_w1 : w.heap.size + 2 < w1.heap.size := by omega
  (try go_simp); (repeat (first | ((with_reducible refine wp_region_app ?_); simp only [List.cons_append, List.nil_append]) | go_values | go_skip | go_guarded | go_step | go_upon))
  refine (few_c a _).mono ?_; rintro e w2 ⟨rfl, hb2⟩
  have hz2 := hb2.size; (try simp at hz2); obtain ⟨hc2, hf2⟩ := bcell hb2; have hB2 := below_step (w := w) hb2 (by repeat (first | assumption | exact Below.refl _ _ | (with_reducible refine Below.drew ?_) | (with_reducible refine below_drewN' ?_ _) | (with_reducible refine below_al ?_) | ((with_reducible refine below_set ?_ ?_); rotate_left; focus (first | (simp; done) | (simp; omega)))))
  have le_w_w2 : w.heap.size ≤ w2.heap.size := by omega
  try have lt_w_w2 : w.heap.size < w2.heap.size := by omega
  have le1_w_w2 : w.heap.size + 1 ≤ w2.heap.size := by omega
  try have lt1_w_w2 : w.heap.size + 1 < w2.heap.size := by omega
  have le2_w_w2 : w.heap.size + 2 ≤ w2.heap.size := by omega
  try have lt2_w_w2 : w.heap.size + 2 < w2.heap.size := by omega
  have le_w1_w2 : w1.heap.size ≤ w2.heap.size := by omega
  try have lt_w1_w2 : w1.heap.size < w2.heap.size := by omega
  (try go_simp); (repeat (first | ((with_reducible refine wp_region_app ?_); simp only [List.cons_append, List.nil_append]) | go_values | go_skip | go_guarded | go_step | go_upon))
  refine (few_c b _).mono ?_; rintro e w3 ⟨rfl, hb3⟩
  have hz3 := hb3.size; (try simp at hz3); obtain ⟨hc3, hf3⟩ := bcell hb3; have hB3 := below_step (w := w) hb3 (by repeat (first | assumption | exact Below.refl _ _ | (with_reducible refine Below.drew ?_) | (with_reducible refine below_drewN' ?_ _) | (with_reducible refine below_al ?_) | ((with_reducible refine below_set ?_ ?_); rotate_left; focus (first | (simp; done) | (simp; omega)))))
  have le_w_w3 : w.heap.size ≤ w3.heap.size := by omega
  try have lt_w_w3 : w.heap.size < w3.heap.size := by omega
  have le1_w_w3 : w.heap.size + 1 ≤ w3.heap.size := by omega
  try have lt1_w_w3 : w.heap.size + 1 < w3.heap.size := by omega
  have le2_w_w3 : w.heap.size + 2 ≤ w3.heap.size := by omega
  try have lt2_w_w3 : w.heap.size + 2 < w3.heap.size := by omega
  have le_w1_w3 : w1.heap.size ≤ w3.heap.size := by omega
  try have lt_w1_w3 : w1.heap.size < w3.heap.size := by omega
  have le_w2_w3 : w2.heap.size ≤ w3.heap.size := by omega
  try have lt_w2_w3 : w2.heap.size < w3.heap.size := by omega
  (try go_simp); (repeat (first | ((with_reducible refine wp_region_app ?_); simp only [List.cons_append, List.nil_append]) | go_values | go_skip | go_guarded | go_step | go_upon))
  refine (rcalMay_c a _ (ia.below (by repeat (first | assumption | exact Below.refl _ _ | (with_reducible refine Below.drew ?_) | (with_reducible refine below_drewN' ?_ _) | (with_reducible refine below_al ?_) | ((with_reducible refine below_set ?_ ?_); rotate_left; focus (first | (simp; done) | (simp; omega))))))).mono ?_; rintro e w4 ⟨rfl, hb4⟩
  have hz4 := hb4.size; (try simp at hz4); obtain ⟨hc4, hf4⟩ := bcell hb4; have hB4 := below_step (w := w) hb4 (by repeat (first | assumption | exact Below.refl _ _ | (with_reducible refine Below.drew ?_) | (with_reducible refine below_drewN' ?_ _) | (with_reducible refine below_al ?_) | ((with_reducible refine below_set ?_ ?_); rotate_left; focus (first | (simp; done) | (simp; omega)))))
  have le_w_w4 : w.heap.size ≤ w4.heap.size := by omega
  try have lt_w_w4 : w.heap.size < w4.heap.size := by omega
  have le1_w_w4 : w.heap.size + 1 ≤ w4.heap.size := by omega
  try have lt1_w_w4 : w.heap.size + 1 < w4.heap.size := by omega
  have le2_w_w4 : w.heap.size + 2 ≤ w4.heap.size := by omega
  try have lt2_w_w4 : w.heap.size + 2 < w4.heap.size := by omega
  have le_w1_w4 : w1.heap.size ≤ w4.heap.size := by omega
  try have lt_w1_w4 : w1.heap.size < w4.heap.size := by omega
  have le_w2_w4 : w2.heap.size ≤ w4.heap.size := by omega
  try have lt_w2_w4 : w2.heap.size < w4.heap.size := by omega
  have le_w3_w4 : w3.heap.size ≤ w4.heap.size := by omega
  try have lt_w3_w4 : w3.heap.size < w4.heap.size := by omega
  (try go_simp); (repeat (first | ((with_reducible refine wp_region_app ?_); simp only [List.cons_append, List.nil_append]) | go_values | go_skip | go_guarded | go_step | go_upon))
  refine (rcalMay_c b _ (ib.below (by repeat (first | assumption | exact Below.refl _ _ | (with_reducible refine Below.drew ?_) | (with_reducible refine below_drewN' ?_ _) | (with_reducible refine below_al ?_) | ((with_reducible refine below_set ?_ ?_); rotate_left; focus (first | (simp; done) | (simp; omega))))))).mono ?_; rintro e w5 ⟨rfl, hb5⟩
  have hz5 := hb5.size; (try simp at hz5); obtain ⟨hc5, hf5⟩ := bcell hb5; have hB5 := below_step (w := w) hb5 (by repeat (first | assumption | exact Below.refl _ _ | (with_reducible refine Below.drew ?_) | (with_reducible refine below_drewN' ?_ _) | (with_reducible refine below_al ?_) | ((with_reducible refine below_set ?_ ?_); rotate_left; focus (first | (simp; done) | (simp; omega)))))
  have le_w_w5 : w.heap.size ≤ w5.heap.size := by omega
  try have lt_w_w5 : w.heap.size < w5.heap.size := by omega
  have le1_w_w5 : w.heap.size + 1 ≤ w5.heap.size := by omega
  try have lt1_w_w5 : w.heap.size + 1 < w5.heap.size := by omega
  have le2_w_w5 : w.heap.size + 2 ≤ w5.heap.size := by omega
  try have lt2_w_w5 : w.heap.size + 2 < w5.heap.size := by omega
  have le_w1_w5 : w1.heap.size ≤ w5.heap.size := by omega
  try have lt_w1_w5 : w1.heap.size < w5.heap.size := by omega
  have le_w2_w5 : w2.heap.size ≤ w5.heap.size := by omega
  try have lt_w2_w5 : w2.heap.size < w5.heap.size := by omega
  have le_w3_w5 : w3.heap.size ≤ w5.heap.size := by omega
  try have lt_w3_w5 : w3.heap.size < w5.heap.size := by omega
  have le_w4_w5 : w4.heap.size ≤ w5.heap.size := by omega
  try have lt_w4_w5 : w4.heap.size < w5.heap.size := by omega
  have Fa0 : Hid (w5.cell? ⟨w.heap.size + 1, 0, none⟩ = some (.bool a.o0)) := Lib.hid (below_some hb5 _ _ _ (below_some hb4 _ _ _ (below_some hb3 _ _ _ (below_some hb2 _ _ _ (below_some hb1 _ _ _ (cell_al (cell_nu (by simp) rfl)))))))
  have Fa1 : Hid (w5.cell? ⟨w.heap.size + 1, 1, none⟩ = some (.bool a.o1)) := Lib.hid (below_some hb5 _ _ _ (below_some hb4 _ _ _ (below_some hb3 _ _ _ (below_some hb2 _ _ _ (below_some hb1 _ _ _ (cell_al (cell_nu (by simp) rfl)))))))
  have Fa2 : Hid (w5.cell? ⟨w.heap.size + 1, 2, none⟩ = some (.bool a.o2)) := Lib.hid (below_some hb5 _ _ _ (below_some hb4 _ _ _ (below_some hb3 _ _ _ (below_some hb2 _ _ _ (below_some hb1 _ _ _ (cell_al (cell_nu (by simp) rfl)))))))
  have Fa3 : Hid (w5.cell? ⟨w.heap.size + 1, 3, none⟩ = some (.bool a.o3)) := Lib.hid (below_some hb5 _ _ _ (below_some hb4 _ _ _ (below_some hb3 _ _ _ (below_some hb2 _ _ _ (below_some hb1 _ _ _ (cell_al (cell_nu (by simp) rfl)))))))
  have Fa4 : Hid (w5.cell? ⟨w.heap.size + 1, 4, none⟩ = some (.bool a.o4)) := Lib.hid (below_some hb5 _ _ _ (below_some hb4 _ _ _ (below_some hb3 _ _ _ (below_some hb2 _ _ _ (below_some hb1 _ _ _ (cell_al (cell_nu (by simp) rfl)))))))
  have Fa5 : Hid (w5.cell? ⟨w.heap.size + 1, 5, none⟩ = some (.bool a.o5)) := Lib.hid (below_some hb5 _ _ _ (below_some hb4 _ _ _ (below_some hb3 _ _ _ (below_some hb2 _ _ _ (below_some hb1 _ _ _ (cell_al (cell_nu (by simp) rfl)))))))
  have Fa6 : Hid (w5.cell? ⟨w.heap.size + 1, 6, none⟩ = some (.bool a.o6)) := Lib.hid (below_some hb5 _ _ _ (below_some hb4 _ _ _ (below_some hb3 _ _ _ (below_some hb2 _ _ _ (below_some hb1 _ _ _ (cell_al (cell_nu (by simp) rfl)))))))
  have Fa7 : Hid (w5.cell? ⟨w.heap.size + 1, 7, none⟩ = some (.slice a.A a.rs.length a.cR)) := Lib.hid (below_some hb5 _ _ _ (below_some hb4 _ _ _ (below_some hb3 _ _ _ (below_some hb2 _ _ _ (below_some hb1 _ _ _ (cell_al (cell_nu (by simp) rfl)))))))
  have Fa8 : Hid (w5.cell? ⟨w.heap.size + 1, 8, none⟩ = some (.slice a.D a.ds.length a.cD)) := Lib.hid (below_some hb5 _ _ _ (below_some hb4 _ _ _ (below_some hb3 _ _ _ (below_some hb2 _ _ _ (below_some hb1 _ _ _ (cell_al (cell_nu (by simp) rfl)))))))
  have Fb0 : Hid (w5.cell? ⟨w.heap.size + 1 + 1, 0, none⟩ = some (.bool b.o0)) := Lib.hid (below_some hb5 _ _ _ (below_some hb4 _ _ _ (below_some hb3 _ _ _ (below_some hb2 _ _ _ (below_some hb1 _ _ _ (cell_nu (by simp) rfl))))))
  have Fb1 : Hid (w5.cell? ⟨w.heap.size + 1 + 1, 1, none⟩ = some (.bool b.o1)) := Lib.hid (below_some hb5 _ _ _ (below_some hb4 _ _ _ (below_some hb3 _ _ _ (below_some hb2 _ _ _ (below_some hb1 _ _ _ (cell_nu (by simp) rfl))))))
  have Fb2 : Hid (w5.cell? ⟨w.heap.size + 1 + 1, 2, none⟩ = some (.bool b.o2)) := Lib.hid (below_some hb5 _ _ _ (below_some hb4 _ _ _ (below_some hb3 _ _ _ (below_some hb2 _ _ _ (below_some hb1 _ _ _ (cell_nu (by simp) rfl))))))
  have Fb3 : Hid (w5.cell? ⟨w.heap.size + 1 + 1, 3, none⟩ = some (.bool b.o3)) := Lib.hid (below_some hb5 _ _ _ (below_some hb4 _ _ _ (below_some hb3 _ _ _ (below_some hb2 _ _ _ (below_some hb1 _ _ _ (cell_nu (by simp) rfl))))))
  have Fb4 : Hid (w5.cell? ⟨w.heap.size + 1 + 1, 4, none⟩ = some (.bool b.o4)) := Lib.hid (below_some hb5 _ _ _ (below_some hb4 _ _ _ (below_some hb3 _ _ _ (below_some hb2 _ _ _ (below_some hb1 _ _ _ (cell_nu (by simp) rfl))))))
  have Fb5 : Hid (w5.cell? ⟨w.heap.size + 1 + 1, 5, none⟩ = some (.bool b.o5)) := Lib.hid (below_some hb5 _ _ _ (below_some hb4 _ _ _ (below_some hb3 _ _ _ (below_some hb2 _ _ _ (below_some hb1 _ _ _ (cell_nu (by simp) rfl))))))
  have Fb6 : Hid (w5.cell? ⟨w.heap.size + 1 + 1, 6, none⟩ = some (.bool b.o6)) := Lib.hid (below_some hb5 _ _ _ (below_some hb4 _ _ _ (below_some hb3 _ _ _ (below_some hb2 _ _ _ (below_some hb1 _ _ _ (cell_nu (by simp) rfl))))))
  have Fb7 : Hid (w5.cell? ⟨w.heap.size + 1 + 1, 7, none⟩ = some (.slice b.A b.rs.length b.cR)) := Lib.hid (below_some hb5 _ _ _ (below_some hb4 _ _ _ (below_some hb3 _ _ _ (below_some hb2 _ _ _ (below_some hb1 _ _ _ (cell_nu (by simp) rfl))))))
  have Fb8 : Hid (w5.cell? ⟨w.heap.size + 1 + 1, 8, none⟩ = some (.slice b.D b.ds.length b.cD)) := Lib.hid (below_some hb5 _ _ _ (below_some hb4 _ _ _ (below_some hb3 _ _ _ (below_some hb2 _ _ _ (below_some hb1 _ _ _ (cell_nu (by simp) rfl))))))
  have hL5 := Lib.hid (hL.below hB5); have hN5 := Lib.hid (hN.below hB5); have ia5 := Lib.hid (ia.below hB5); have ib5 := Lib.hid (ib.below hB5)
  have k5 : w.heap.size + 3 ≤ w5.heap.size := by omega
  have HB5 := Lib.hid hB5
  clear ia ib hL hN hc1 hf1 hB1 hb1 hz1 hc2 hf2 hB2 hb2 hz2 hc3 hf3 hB3 hb3 hz3 hc4 hf4 hB4 hb4 hz4 hc5 hf5 hB5 hb5 hz5
  clear fa fb ma mb
  try clear le_w_w1
  try clear lt_w_w1
  try clear le1_w_w1
  try clear lt1_w_w1
  try clear le2_w_w1
  try clear lt2_w_w1
  try clear le_w_w2
  try clear lt_w_w2
  try clear le1_w_w2
  try clear lt1_w_w2
  try clear le2_w_w2
  try clear lt2_w_w2
  try clear le_w_w3
  try clear lt_w_w3
  try clear le1_w_w3
  try clear lt1_w_w3
  try clear le2_w_w3
  try clear lt2_w_w3
  try clear le_w_w4
  try clear lt_w_w4
  try clear le1_w_w4
  try clear lt1_w_w4
  try clear le2_w_w4
  try clear lt2_w_w4
  try clear le_w_w5
  try clear lt_w_w5
  try clear le1_w_w5
  try clear lt1_w_w5
  try clear le2_w_w5
  try clear lt2_w_w5
  try clear le_w1_w2
  try clear lt_w1_w2
  try clear le1_w1_w2
  try clear lt1_w1_w2
  try clear le2_w1_w2
  try clear lt2_w1_w2
  try clear le_w1_w3
  try clear lt_w1_w3
  try clear le1_w1_w3
  try clear lt1_w1_w3
  try clear le2_w1_w3
  try clear lt2_w1_w3
  try clear le_w1_w4
  try clear lt_w1_w4
  try clear le1_w1_w4
  try clear lt1_w1_w4
  try clear le2_w1_w4
  try clear lt2_w1_w4
  try clear le_w1_w5
  try clear lt_w1_w5
  try clear le1_w1_w5
  try clear lt1_w1_w5
  try clear le2_w1_w5
  try clear lt2_w1_w5
  try clear le_w2_w3
  try clear lt_w2_w3
  try clear le1_w2_w3
  try clear lt1_w2_w3
  try clear le2_w2_w3
  try clear lt2_w2_w3
  try clear le_w2_w4
  try clear lt_w2_w4
  try clear le1_w2_w4
  try clear lt1_w2_w4
  try clear le2_w2_w4
  try clear lt2_w2_w4
  try clear le_w2_w5
  try clear lt_w2_w5
  try clear le1_w2_w5
  try clear lt1_w2_w5
  try clear le2_w2_w5
  try clear lt2_w2_w5
  try clear le_w3_w4
  try clear lt_w3_w4
  try clear le1_w3_w4
  try clear lt1_w3_w4
  try clear le2_w3_w4
  try clear lt2_w3_w4
  try clear le_w3_w5
  try clear lt_w3_w5
  try clear le1_w3_w5
  try clear lt1_w3_w5
  try clear le2_w3_w5
  try clear lt2_w3_w5
  try clear le_w4_w5
  try clear lt_w4_w5
  try clear le1_w4_w5
  try clear lt1_w4_w5
  try clear le2_w4_w5
  try clear lt2_w4_w5
  have h9 : Hid (Below w5.heap.size w5 w5) := Lib.hid (Below.refl _ _)
  have da0 := below_some h9.out _ _ _ Fa0.out
  have da1 := below_some h9.out _ _ _ Fa1.out
  have da2 := below_some h9.out _ _ _ Fa2.out
  have da3 := below_some h9.out _ _ _ Fa3.out
  have da4 := below_some h9.out _ _ _ Fa4.out
  have da5 := below_some h9.out _ _ _ Fa5.out
  have da6 := below_some h9.out _ _ _ Fa6.out
  have da7 := below_some h9.out _ _ _ Fa7.out
  have da8 := below_some h9.out _ _ _ Fa8.out
  have db0 := below_some h9.out _ _ _ Fb0.out
  have db1 := below_some h9.out _ _ _ Fb1.out
  have db2 := below_some h9.out _ _ _ Fb2.out
  have db3 := below_some h9.out _ _ _ Fb3.out
  have db4 := below_some h9.out _ _ _ Fb4.out
  have db5 := below_some h9.out _ _ _ Fb5.out
  have db6 := below_some h9.out _ _ _ Fb6.out
  have db7 := below_some h9.out _ _ _ Fb7.out
  have db8 := below_some h9.out _ _ _ Fb8.out
  (try go_simp); (repeat (first | ((with_reducible refine wp_region_app ?_); simp only [List.cons_append, List.nil_append]) | go_values | go_skip | go_guarded | go_step | go_upon))
  refine (uniY_c a b HMA.out HMB.out HFA.out HFB.out UAB.out p0 p1 p2 p3 p4 p5 p6 hp rs' hrs ds' hds _ (hL5.out.below (by have h9 := h9.out; repeat (first | (with_reducible assumption) | (with_reducible exact Below.refl _ _) | (with_reducible refine Below.drew ?_) | (with_reducible refine below_drewN' ?_ _) | (with_reducible refine below_al ?_) | ((with_reducible refine below_set ?_ ?_); rotate_left; focus (first | (simp; done) | (simp; omega)))))) (hN5.out.below (by have h9 := h9.out; repeat (first | (with_reducible assumption) | (with_reducible exact Below.refl _ _) | (with_reducible refine Below.drew ?_) | (with_reducible refine below_drewN' ?_ _) | (with_reducible refine below_al ?_) | ((with_reducible refine below_set ?_ ?_); rotate_left; focus (first | (simp; done) | (simp; omega)))))) (ia5.out.below (by have h9 := h9.out; repeat (first | (with_reducible assumption) | (with_reducible exact Below.refl _ _) | (with_reducible refine Below.drew ?_) | (with_reducible refine below_drewN' ?_ _) | (with_reducible refine below_al ?_) | ((with_reducible refine below_set ?_ ?_); rotate_left; focus (first | (simp; done) | (simp; omega)))))) (ib5.out.below (by have h9 := h9.out; repeat (first | (with_reducible assumption) | (with_reducible exact Below.refl _ _) | (with_reducible refine Below.drew ?_) | (with_reducible refine below_drewN' ?_ _) | (with_reducible refine below_al ?_) | ((with_reducible refine below_set ?_ ?_); rotate_left; focus (first | (simp; done) | (simp; omega))))))).mono ?_; rintro e w6 ⟨xA, xc, xD, xd, rfl, hxr, hxd, hb6⟩
  have h9' := Lib.hid (below_step (w := w5) hb6 (by have h9 := h9.out; repeat (first | (with_reducible assumption) | (with_reducible exact Below.refl _ _) | (with_reducible refine Below.drew ?_) | (with_reducible refine below_drewN' ?_ _) | (with_reducible refine below_al ?_) | ((with_reducible refine below_set ?_ ?_); rotate_left; focus (first | (simp; done) | (simp; omega)))))); clear h9; have h9 := h9'; clear h9'
  have k_w6 : w5.heap.size ≤ w6.heap.size := h9.out.size
  have l1_w6 : w.heap.size + 1 < w6.heap.size := by omega
  have l2_w6 : w.heap.size + 1 + 1 < w6.heap.size := by omega
  clear da0 da1 da2 da3 da4 da5 da6 da7 da8
  clear db0 db1 db2 db3 db4 db5 db6 db7 db8
  clear hb6
  have da0 := below_some h9.out _ _ _ Fa0.out
  have da1 := below_some h9.out _ _ _ Fa1.out
  have da2 := below_some h9.out _ _ _ Fa2.out
  have da3 := below_some h9.out _ _ _ Fa3.out
  have da4 := below_some h9.out _ _ _ Fa4.out
  have da5 := below_some h9.out _ _ _ Fa5.out
  have da6 := below_some h9.out _ _ _ Fa6.out
  have da7 := below_some h9.out _ _ _ Fa7.out
  have da8 := below_some h9.out _ _ _ Fa8.out
  have db0 := below_some h9.out _ _ _ Fb0.out
  have db1 := below_some h9.out _ _ _ Fb1.out
  have db2 := below_some h9.out _ _ _ Fb2.out
  have db3 := below_some h9.out _ _ _ Fb3.out
  have db4 := below_some h9.out _ _ _ Fb4.out
  have db5 := below_some h9.out _ _ _ Fb5.out
  have db6 := below_some h9.out _ _ _ Fb6.out
  have db7 := below_some h9.out _ _ _ Fb7.out
  have db8 := below_some h9.out _ _ _ Fb8.out
  (try go_simp); (repeat (first | ((with_reducible refine wp_region_app ?_); simp only [List.cons_append, List.nil_append]) | go_values | go_skip | go_guarded | go_step | go_upon))
  refine (runiY_c a b HMA.out HMB.out HFA.out HFB.out UAB.out p0 p1 p2 p3 p4 p5 p6 hp rs' hrs ds' hds _ (ia5.out.below (by have h9 := h9.out; repeat (first | (with_reducible assumption) | (with_reducible exact Below.refl _ _) | (with_reducible refine Below.drew ?_) | (with_reducible refine below_drewN' ?_ _) | (with_reducible refine below_al ?_) | ((with_reducible refine below_set ?_ ?_); rotate_left; focus (first | (simp; done) | (simp; omega)))))) (ib5.out.below (by have h9 := h9.out; repeat (first | (with_reducible assumption) | (with_reducible exact Below.refl _ _) | (with_reducible refine Below.drew ?_) | (with_reducible refine below_drewN' ?_ _) | (with_reducible refine below_al ?_) | ((with_reducible refine below_set ?_ ?_); rotate_left; focus (first | (simp; done) | (simp; omega))))))).mono ?_; rintro e w7 ⟨yA, yc, yD, yd, rfl, hyr, hyd, hb7⟩
  have h9' := Lib.hid (below_step (w := w5) hb7 (by have h9 := h9.out; repeat (first | (with_reducible assumption) | (with_reducible exact Below.refl _ _) | (with_reducible refine Below.drew ?_) | (with_reducible refine below_drewN' ?_ _) | (with_reducible refine below_al ?_) | ((with_reducible refine below_set ?_ ?_); rotate_left; focus (first | (simp; done) | (simp; omega)))))); clear h9; have h9 := h9'; clear h9'
  have k_w7 : w5.heap.size ≤ w7.heap.size := h9.out.size
  have l1_w7 : w.heap.size + 1 < w7.heap.size := by omega
  have l2_w7 : w.heap.size + 1 + 1 < w7.heap.size := by omega
  clear da0 da1 da2 da3 da4 da5 da6 da7 da8
  clear db0 db1 db2 db3 db4 db5 db6 db7 db8
  have Fx0 : Hid (w7.cell? ⟨w6.heap.size, 0, none⟩ = some (.bool p0)) := Lib.hid (below_some hb7 _ _ _ (cell_nu rfl rfl))
  have Fx1 : Hid (w7.cell? ⟨w6.heap.size, 1, none⟩ = some (.bool p1)) := Lib.hid (below_some hb7 _ _ _ (cell_nu rfl rfl))
  have Fx2 : Hid (w7.cell? ⟨w6.heap.size, 2, none⟩ = some (.bool p2)) := Lib.hid (below_some hb7 _ _ _ (cell_nu rfl rfl))
  have Fx3 : Hid (w7.cell? ⟨w6.heap.size, 3, none⟩ = some (.bool p3)) := Lib.hid (below_some hb7 _ _ _ (cell_nu rfl rfl))
  have Fx4 : Hid (w7.cell? ⟨w6.heap.size, 4, none⟩ = some (.bool p4)) := Lib.hid (below_some hb7 _ _ _ (cell_nu rfl rfl))
  have Fx5 : Hid (w7.cell? ⟨w6.heap.size, 5, none⟩ = some (.bool p5)) := Lib.hid (below_some hb7 _ _ _ (cell_nu rfl rfl))
  have Fx6 : Hid (w7.cell? ⟨w6.heap.size, 6, none⟩ = some (.bool p6)) := Lib.hid (below_some hb7 _ _ _ (cell_nu rfl rfl))
  have Fx7 : Hid (w7.cell? ⟨w6.heap.size, 7, none⟩ = some (.slice xA rs'.length xc)) := Lib.hid (below_some hb7 _ _ _ (cell_nu rfl rfl))
  have Fx8 : Hid (w7.cell? ⟨w6.heap.size, 8, none⟩ = some (.slice xD ds'.length xd)) := Lib.hid (below_some hb7 _ _ _ (cell_nu rfl rfl))
  have b67 : Hid (Below w6.heap.size w6 w7) := Lib.hid (below_step (w := w6) hb7 (below_al (Below.refl _ _))); clear hb7
  have da0 := below_some h9.out _ _ _ Fa0.out
  have da1 := below_some h9.out _ _ _ Fa1.out
  have da2 := below_some h9.out _ _ _ Fa2.out
  have da3 := below_some h9.out _ _ _ Fa3.out
  have da4 := below_some h9.out _ _ _ Fa4.out
  have da5 := below_some h9.out _ _ _ Fa5.out
  have da6 := below_some h9.out _ _ _ Fa6.out
  have da7 := below_some h9.out _ _ _ Fa7.out
  have da8 := below_some h9.out _ _ _ Fa8.out
  (try go_simp); (repeat (first | ((with_reducible refine wp_region_app ?_); simp only [List.cons_append, List.nil_append]) | go_values | go_skip | go_guarded | go_step | go_upon))
  refine (cmany_c a n m hka.out x c hR _ (hL5.out.below (by have h9 := h9.out; repeat (first | (with_reducible assumption) | (with_reducible exact Below.refl _ _) | (with_reducible refine Below.drew ?_) | (with_reducible refine below_drewN' ?_ _) | (with_reducible refine below_al ?_) | ((with_reducible refine below_set ?_ ?_); rotate_left; focus (first | (simp; done) | (simp; omega)))))) (ia5.out.below (by have h9 := h9.out; repeat (first | (with_reducible assumption) | (with_reducible exact Below.refl _ _) | (with_reducible refine Below.drew ?_) | (with_reducible refine below_drewN' ?_ _) | (with_reducible refine below_al ?_) | ((with_reducible refine below_set ?_ ?_); rotate_left; focus (first | (simp; done) | (simp; omega))))))).mono ?_; rintro e w8 ⟨rfl, hb8⟩
  have h9' := Lib.hid (below_step (w := w5) hb8 (by have h9 := h9.out; repeat (first | (with_reducible assumption) | (with_reducible exact Below.refl _ _) | (with_reducible refine Below.drew ?_) | (with_reducible refine below_drewN' ?_ _) | (with_reducible refine below_al ?_) | ((with_reducible refine below_set ?_ ?_); rotate_left; focus (first | (simp; done) | (simp; omega)))))); clear h9; have h9 := h9'; clear h9'
  have k_w8 : w5.heap.size ≤ w8.heap.size := h9.out.size
  have l1_w8 : w.heap.size + 1 < w8.heap.size := by omega
  have l2_w8 : w.heap.size + 1 + 1 < w8.heap.size := by omega
  clear da0 da1 da2 da3 da4 da5 da6 da7 da8
  have Fy0 : Hid (w8.cell? ⟨w7.heap.size, 0, none⟩ = some (.bool p0)) := Lib.hid (below_some hb8 _ _ _ (cell_nu rfl rfl))
  have Fy1 : Hid (w8.cell? ⟨w7.heap.size, 1, none⟩ = some (.bool p1)) := Lib.hid (below_some hb8 _ _ _ (cell_nu rfl rfl))
  have Fy2 : Hid (w8.cell? ⟨w7.heap.size, 2, none⟩ = some (.bool p2)) := Lib.hid (below_some hb8 _ _ _ (cell_nu rfl rfl))
  have Fy3 : Hid (w8.cell? ⟨w7.heap.size, 3, none⟩ = some (.bool p3)) := Lib.hid (below_some hb8 _ _ _ (cell_nu rfl rfl))
  have Fy4 : Hid (w8.cell? ⟨w7.heap.size, 4, none⟩ = some (.bool p4)) := Lib.hid (below_some hb8 _ _ _ (cell_nu rfl rfl))
  have Fy5 : Hid (w8.cell? ⟨w7.heap.size, 5, none⟩ = some (.bool p5)) := Lib.hid (below_some hb8 _ _ _ (cell_nu rfl rfl))
  have Fy6 : Hid (w8.cell? ⟨w7.heap.size, 6, none⟩ = some (.bool p6)) := Lib.hid (below_some hb8 _ _ _ (cell_nu rfl rfl))
  have Fy7 : Hid (w8.cell? ⟨w7.heap.size, 7, none⟩ = some (.slice yA rs'.length yc)) := Lib.hid (below_some hb8 _ _ _ (cell_nu rfl rfl))
  have Fy8 : Hid (w8.cell? ⟨w7.heap.size, 8, none⟩ = some (.slice yD ds'.length yd)) := Lib.hid (below_some hb8 _ _ _ (cell_nu rfl rfl))
  have b78 : Hid (Below w7.heap.size w7 w8) := Lib.hid (below_step (w := w7) hb8 (below_al (Below.refl _ _))); clear hb8
  have da0 := below_some h9.out _ _ _ Fa0.out
  have da1 := below_some h9.out _ _ _ Fa1.out
  have da2 := below_some h9.out _ _ _ Fa2.out
  have da3 := below_some h9.out _ _ _ Fa3.out
  have da4 := below_some h9.out _ _ _ Fa4.out
  have da5 := below_some h9.out _ _ _ Fa5.out
  have da6 := below_some h9.out _ _ _ Fa6.out
  have da7 := below_some h9.out _ _ _ Fa7.out
  have da8 := below_some h9.out _ _ _ Fa8.out
  (try go_simp); (repeat (first | ((with_reducible refine wp_region_app ?_); simp only [List.cons_append, List.nil_append]) | go_values | go_skip | go_guarded | go_step | go_upon))
  refine (rmany_c a n m hka.out x c hR _ (hL5.out.below (by have h9 := h9.out; repeat (first | (with_reducible assumption) | (with_reducible exact Below.refl _ _) | (with_reducible refine Below.drew ?_) | (with_reducible refine below_drewN' ?_ _) | (with_reducible refine below_al ?_) | ((with_reducible refine below_set ?_ ?_); rotate_left; focus (first | (simp; done) | (simp; omega)))))) (ia5.out.below (by have h9 := h9.out; repeat (first | (with_reducible assumption) | (with_reducible exact Below.refl _ _) | (with_reducible refine Below.drew ?_) | (with_reducible refine below_drewN' ?_ _) | (with_reducible refine below_al ?_) | ((with_reducible refine below_set ?_ ?_); rotate_left; focus (first | (simp; done) | (simp; omega))))))).mono ?_; rintro e w9 ⟨rfl, hb9⟩
  have h9' := Lib.hid (below_step (w := w5) hb9 (by have h9 := h9.out; repeat (first | (with_reducible assumption) | (with_reducible exact Below.refl _ _) | (with_reducible refine Below.drew ?_) | (with_reducible refine below_drewN' ?_ _) | (with_reducible refine below_al ?_) | ((with_reducible refine below_set ?_ ?_); rotate_left; focus (first | (simp; done) | (simp; omega)))))); clear h9; have h9 := h9'; clear h9'
  have k_w9 : w5.heap.size ≤ w9.heap.size := h9.out.size
  have l1_w9 : w.heap.size + 1 < w9.heap.size := by omega
  have l2_w9 : w.heap.size + 1 + 1 < w9.heap.size := by omega
  clear da0 da1 da2 da3 da4 da5 da6 da7 da8
  have b79 : Below w7.heap.size w7 w9 := b78.out.trans (hb9.mono b78.out.size)
  have b69 : Below w6.heap.size w6 w9 := b67.out.trans (b79.mono b67.out.size)
  have dx0 := below_some b79 _ _ _ Fx0.out
  have dy0 := below_some hb9 _ _ _ Fy0.out
  have dx1 := below_some b79 _ _ _ Fx1.out
  have dy1 := below_some hb9 _ _ _ Fy1.out
  have dx2 := below_some b79 _ _ _ Fx2.out
  have dy2 := below_some hb9 _ _ _ Fy2.out
  have dx3 := below_some b79 _ _ _ Fx3.out
  have dy3 := below_some hb9 _ _ _ Fy3.out
  have dx4 := below_some b79 _ _ _ Fx4.out
  have dy4 := below_some hb9 _ _ _ Fy4.out
  have dx5 := below_some b79 _ _ _ Fx5.out
  have dy5 := below_some hb9 _ _ _ Fy5.out
  have dx6 := below_some b79 _ _ _ Fx6.out
  have dy6 := below_some hb9 _ _ _ Fy6.out
  have dx7 := below_some b79 _ _ _ Fx7.out
  have dy7 := below_some hb9 _ _ _ Fy7.out
  have dx8 := below_some b79 _ _ _ Fx8.out
  have dy8 := below_some hb9 _ _ _ Fy8.out
  have HXR := Lib.hid (hxr.below b69); have HXD := Lib.hid (hxd.below b69); have HYR := Lib.hid (hyr.below b79); have HYD := Lib.hid (hyd.below b79); clear hxr hxd hyr hyd
  clear b79 b69 hb9
  (try go_simp); (repeat (first | ((with_reducible refine wp_region_app ?_); simp only [List.cons_append, List.nil_append]) | go_values | go_skip | go_guarded | go_step | go_upon))
  refine (same_c p0 p1 p2 p3 p4 p5 p6 xA yA xc yc rs' xD yD xd yd ds' lr ld _ HXR.out HYR.out HXD.out HYD.out).mono ?_; rintro e w10 ⟨rfl, hb10⟩
  have hB10 : Below w.heap.size w w10 := HB5.out.trans ((below_step (w := w5) hb10 (by have h9 := h9.out; repeat (first | (with_reducible assumption) | (with_reducible exact Below.refl _ _) | (with_reducible refine Below.drew ?_) | (with_reducible refine below_drewN' ?_ _) | (with_reducible refine below_al ?_) | ((with_reducible refine below_set ?_ ?_); rotate_left; focus (first | (simp; done) | (simp; omega)))))).mono HB5.out.size)
  (try go_simp); (repeat (first | ((with_reducible refine wp_region_app ?_); simp only [List.cons_append, List.nil_append]) | go_values | go_skip | go_guarded | go_step | go_upon))
  go_ret
  exact ⟨rfl, hB10⟩
set_option maxRecDepth 100000 in
set_option maxHeartbeats 8000000 in
theorem calUnites_g1n (a b : CalP) (n m : Int) (fa : a.few = true) (fb : b.few = true) (ma : a.may = true) (mb : b.may = true) (t1 : decide (n < m) = false) (x c : Int) (hR : Hid (many a n m = (x, c))) (sc : IntKind.i64.wrap c = c) (sx : (x == x) = true) (scc : (c == c) = true) (uab : uopen a b = false)  (w : World) (hL : Laid w) (hN : AllOff w) (ia : CalIn w a) (ib : CalIn w b) : Calls Tryd.prog 10 #[.agg #[.bool a.o0, .bool a.o1, .bool a.o2, .bool a.o3, .bool a.o4, .bool a.o5, .bool a.o6, .slice a.A a.rs.length a.cR, .slice a.D a.ds.length a.cD, .bool b.o0, .bool b.o1, .bool b.o2, .bool b.o3, .bool b.o4, .bool b.o5, .bool b.o6, .slice b.A b.rs.length b.cR, .slice b.D b.ds.length b.cD, .int .i64 n, .int .i64 m]] w fun e w' => e = .returned (.bool true) ∧ Below w.heap.size w w' := by
  have hka := Lib.hid (CalP.ok ma)
  have UAB := Lib.hid uab; clear uab
  have HMA := Lib.hid ma; have HMB := Lib.hid mb; have HFA := Lib.hid fa; have HFB := Lib.hid fb
  have hB : Below w.heap.size w w := Below.refl _ _
  go_enter Tryd.func10, Tryd.ntmps10
  (try go_simp); (repeat (first | ((with_reducible refine wp_region_app ?_); simp only [List.cons_append, List.nil_append]) | go_values | go_skip | go_guarded | go_step | go_upon))
  refine (shown13_c _ (hL.below (by repeat (first | assumption | exact Below.refl _ _ | (with_reducible refine Below.drew ?_) | (with_reducible refine below_drewN' ?_ _) | (with_reducible refine below_al ?_) | ((with_reducible refine below_set ?_ ?_); rotate_left; focus (first | (simp; done) | (simp; omega)))))) (hN.below (by repeat (first | assumption | exact Below.refl _ _ | (with_reducible refine Below.drew ?_) | (with_reducible refine below_drewN' ?_ _) | (with_reducible refine below_al ?_) | ((with_reducible refine below_set ?_ ?_); rotate_left; focus (first | (simp; done) | (simp; omega))))))).mono ?_; rintro e w1 ⟨rfl, hb1⟩
  have hz1 := hb1.size; (try simp at hz1); obtain ⟨hc1, hf1⟩ := bcell hb1; have hB1 := below_step (w := w) hb1 (by repeat (first | assumption | exact Below.refl _ _ | (with_reducible refine Below.drew ?_) | (with_reducible refine below_drewN' ?_ _) | (with_reducible refine below_al ?_) | ((with_reducible refine below_set ?_ ?_); rotate_left; focus (first | (simp; done) | (simp; omega)))))
  have le_w_w1 : w.heap.size ≤ w1.heap.size := by omega
  try have lt_w_w1 : w.heap.size < w1.heap.size := by omega
  have le1_w_w1 : w.heap.size + 1 ≤ w1.heap.size := by omega
  try have lt1_w_w1 : w.heap.size + 1 < w1.heap.size := by omega
  have le2_w_w1 : w.heap.size + 2 ≤ w1.heap.size := by omega
  try have lt2_w_w1 : w.heap.size + 2 < w1.heap.size := by omega
  (try go_simp); (repeat (first | ((with_reducible refine wp_region_app ?_); simp only [List.cons_append, List.nil_append]) | go_values | go_skip | go_guarded | go_step | go_upon))
  refine (few_c a _).mono ?_; rintro e w2 ⟨rfl, hb2⟩
  have hz2 := hb2.size; (try simp at hz2); obtain ⟨hc2, hf2⟩ := bcell hb2; have hB2 := below_step (w := w) hb2 (by repeat (first | assumption | exact Below.refl _ _ | (with_reducible refine Below.drew ?_) | (with_reducible refine below_drewN' ?_ _) | (with_reducible refine below_al ?_) | ((with_reducible refine below_set ?_ ?_); rotate_left; focus (first | (simp; done) | (simp; omega)))))
  have le_w_w2 : w.heap.size ≤ w2.heap.size := by omega
  try have lt_w_w2 : w.heap.size < w2.heap.size := by omega
  have le1_w_w2 : w.heap.size + 1 ≤ w2.heap.size := by omega
  try have lt1_w_w2 : w.heap.size + 1 < w2.heap.size := by omega
  have le2_w_w2 : w.heap.size + 2 ≤ w2.heap.size := by omega
  try have lt2_w_w2 : w.heap.size + 2 < w2.heap.size := by omega
  have le_w1_w2 : w1.heap.size ≤ w2.heap.size := by omega
  try have lt_w1_w2 : w1.heap.size < w2.heap.size := by omega
  (try go_simp); (repeat (first | ((with_reducible refine wp_region_app ?_); simp only [List.cons_append, List.nil_append]) | go_values | go_skip | go_guarded | go_step | go_upon))
  refine (few_c b _).mono ?_; rintro e w3 ⟨rfl, hb3⟩
  have hz3 := hb3.size; (try simp at hz3); obtain ⟨hc3, hf3⟩ := bcell hb3; have hB3 := below_step (w := w) hb3 (by repeat (first | assumption | exact Below.refl _ _ | (with_reducible refine Below.drew ?_) | (with_reducible refine below_drewN' ?_ _) | (with_reducible refine below_al ?_) | ((with_reducible refine below_set ?_ ?_); rotate_left; focus (first | (simp; done) | (simp; omega)))))
  have le_w_w3 : w.heap.size ≤ w3.heap.size := by omega
  try have lt_w_w3 : w.heap.size < w3.heap.size := by omega
  have le1_w_w3 : w.heap.size + 1 ≤ w3.heap.size := by omega
  try have lt1_w_w3 : w.heap.size + 1 < w3.heap.size := by omega
  have le2_w_w3 : w.heap.size + 2 ≤ w3.heap.size := by omega
  try have lt2_w_w3 : w.heap.size + 2 < w3.heap.size := by omega
  have le_w1_w3 : w1.heap.size ≤ w3.heap.size := by omega
  try have lt_w1_w3 : w1.heap.size < w3.heap.size := by omega
  have le_w2_w3 : w2.heap.size ≤ w3.heap.size := by omega
  try have lt_w2_w3 : w2.heap.size < w3.heap.size := by omega
  (try go_simp); (repeat (first | ((with_reducible refine wp_region_app ?_); simp only [List.cons_append, List.nil_append]) | go_values | go_skip | go_guarded | go_step | go_upon))
  refine (rcalMay_c a _ (ia.below (by repeat (first | assumption | exact Below.refl _ _ | (with_reducible refine Below.drew ?_) | (with_reducible refine below_drewN' ?_ _) | (with_reducible refine below_al ?_) | ((with_reducible refine below_set ?_ ?_); rotate_left; focus (first | (simp; done) | (simp; omega))))))).mono ?_; rintro e w4 ⟨rfl, hb4⟩
  have hz4 := hb4.size; (try simp at hz4); obtain ⟨hc4, hf4⟩ := bcell hb4; have hB4 := below_step (w := w) hb4 (by repeat (first | assumption | exact Below.refl _ _ | (with_reducible refine Below.drew ?_) | (with_reducible refine below_drewN' ?_ _) | (with_reducible refine below_al ?_) | ((with_reducible refine below_set ?_ ?_); rotate_left; focus (first | (simp; done) | (simp; omega)))))
  have le_w_w4 : w.heap.size ≤ w4.heap.size := by omega
  try have lt_w_w4 : w.heap.size < w4.heap.size := by omega
  have le1_w_w4 : w.heap.size + 1 ≤ w4.heap.size := by omega
  try have lt1_w_w4 : w.heap.size + 1 < w4.heap.size := by omega
  have le2_w_w4 : w.heap.size + 2 ≤ w4.heap.size := by omega
  try have lt2_w_w4 : w.heap.size + 2 < w4.heap.size := by omega
  have le_w1_w4 : w1.heap.size ≤ w4.heap.size := by omega
  try have lt_w1_w4 : w1.heap.size < w4.heap.size := by omega
  have le_w2_w4 : w2.heap.size ≤ w4.heap.size := by omega
  try have lt_w2_w4 : w2.heap.size < w4.heap.size := by omega
  have le_w3_w4 : w3.heap.size ≤ w4.heap.size := by omega
  try have lt_w3_w4 : w3.heap.size < w4.heap.size := by omega
  (try go_simp); (repeat (first | ((with_reducible refine wp_region_app ?_); simp only [List.cons_append, List.nil_append]) | go_values | go_skip | go_guarded | go_step | go_upon))
  refine (rcalMay_c b _ (ib.below (by repeat (first | assumption | exact Below.refl _ _ | (with_reducible refine Below.drew ?_) | (with_reducible refine below_drewN' ?_ _) | (with_reducible refine below_al ?_) | ((with_reducible refine below_set ?_ ?_); rotate_left; focus (first | (simp; done) | (simp; omega))))))).mono ?_; rintro e w5 ⟨rfl, hb5⟩
  have hz5 := hb5.size; (try simp at hz5); obtain ⟨hc5, hf5⟩ := bcell hb5; have hB5 := below_step (w := w) hb5 (by repeat (first | assumption | exact Below.refl _ _ | (with_reducible refine Below.drew ?_) | (with_reducible refine below_drewN' ?_ _) | (with_reducible refine below_al ?_) | ((with_reducible refine below_set ?_ ?_); rotate_left; focus (first | (simp; done) | (simp; omega)))))
  have le_w_w5 : w.heap.size ≤ w5.heap.size := by omega
  try have lt_w_w5 : w.heap.size < w5.heap.size := by omega
  have le1_w_w5 : w.heap.size + 1 ≤ w5.heap.size := by omega
  try have lt1_w_w5 : w.heap.size + 1 < w5.heap.size := by omega
  have le2_w_w5 : w.heap.size + 2 ≤ w5.heap.size := by omega
  try have lt2_w_w5 : w.heap.size + 2 < w5.heap.size := by omega
  have le_w1_w5 : w1.heap.size ≤ w5.heap.size := by omega
  try have lt_w1_w5 : w1.heap.size < w5.heap.size := by omega
  have le_w2_w5 : w2.heap.size ≤ w5.heap.size := by omega
  try have lt_w2_w5 : w2.heap.size < w5.heap.size := by omega
  have le_w3_w5 : w3.heap.size ≤ w5.heap.size := by omega
  try have lt_w3_w5 : w3.heap.size < w5.heap.size := by omega
  have le_w4_w5 : w4.heap.size ≤ w5.heap.size := by omega
  try have lt_w4_w5 : w4.heap.size < w5.heap.size := by omega
  have Fa0 : Hid (w5.cell? ⟨w.heap.size + 1, 0, none⟩ = some (.bool a.o0)) := Lib.hid (below_some hb5 _ _ _ (below_some hb4 _ _ _ (below_some hb3 _ _ _ (below_some hb2 _ _ _ (below_some hb1 _ _ _ (cell_al (cell_nu (by simp) rfl)))))))
  have Fa1 : Hid (w5.cell? ⟨w.heap.size + 1, 1, none⟩ = some (.bool a.o1)) := Lib.hid (below_some hb5 _ _ _ (below_some hb4 _ _ _ (below_some hb3 _ _ _ (below_some hb2 _ _ _ (below_some hb1 _ _ _ (cell_al (cell_nu (by simp) rfl)))))))
  have Fa2 : Hid (w5.cell? ⟨w.heap.size + 1, 2, none⟩ = some (.bool a.o2)) := Lib.hid (below_some hb5 _ _ _ (below_some hb4 _ _ _ (below_some hb3 _ _ _ (below_some hb2 _ _ _ (below_some hb1 _ _ _ (cell_al (cell_nu (by simp) rfl)))))))
  have Fa3 : Hid (w5.cell? ⟨w.heap.size + 1, 3, none⟩ = some (.bool a.o3)) := Lib.hid (below_some hb5 _ _ _ (below_some hb4 _ _ _ (below_some hb3 _ _ _ (below_some hb2 _ _ _ (below_some hb1 _ _ _ (cell_al (cell_nu (by simp) rfl)))))))
  have Fa4 : Hid (w5.cell? ⟨w.heap.size + 1, 4, none⟩ = some (.bool a.o4)) := Lib.hid (below_some hb5 _ _ _ (below_some hb4 _ _ _ (below_some hb3 _ _ _ (below_some hb2 _ _ _ (below_some hb1 _ _ _ (cell_al (cell_nu (by simp) rfl)))))))
  have Fa5 : Hid (w5.cell? ⟨w.heap.size + 1, 5, none⟩ = some (.bool a.o5)) := Lib.hid (below_some hb5 _ _ _ (below_some hb4 _ _ _ (below_some hb3 _ _ _ (below_some hb2 _ _ _ (below_some hb1 _ _ _ (cell_al (cell_nu (by simp) rfl)))))))
  have Fa6 : Hid (w5.cell? ⟨w.heap.size + 1, 6, none⟩ = some (.bool a.o6)) := Lib.hid (below_some hb5 _ _ _ (below_some hb4 _ _ _ (below_some hb3 _ _ _ (below_some hb2 _ _ _ (below_some hb1 _ _ _ (cell_al (cell_nu (by simp) rfl)))))))
  have Fa7 : Hid (w5.cell? ⟨w.heap.size + 1, 7, none⟩ = some (.slice a.A a.rs.length a.cR)) := Lib.hid (below_some hb5 _ _ _ (below_some hb4 _ _ _ (below_some hb3 _ _ _ (below_some hb2 _ _ _ (below_some hb1 _ _ _ (cell_al (cell_nu (by simp) rfl)))))))
  have Fa8 : Hid (w5.cell? ⟨w.heap.size + 1, 8, none⟩ = some (.slice a.D a.ds.length a.cD)) := Lib.hid (below_some hb5 _ _ _ (below_some hb4 _ _ _ (below_some hb3 _ _ _ (below_some hb2 _ _ _ (below_some hb1 _ _ _ (cell_al (cell_nu (by simp) rfl)))))))
  have Fb0 : Hid (w5.cell? ⟨w.heap.size + 1 + 1, 0, none⟩ = some (.bool b.o0)) := Lib.hid (below_some hb5 _ _ _ (below_some hb4 _ _ _ (below_some hb3 _ _ _ (below_some hb2 _ _ _ (below_some hb1 _ _ _ (cell_nu (by simp) rfl))))))
  have Fb1 : Hid (w5.cell? ⟨w.heap.size + 1 + 1, 1, none⟩ = some (.bool b.o1)) := Lib.hid (below_some hb5 _ _ _ (below_some hb4 _ _ _ (below_some hb3 _ _ _ (below_some hb2 _ _ _ (below_some hb1 _ _ _ (cell_nu (by simp) rfl))))))
  have Fb2 : Hid (w5.cell? ⟨w.heap.size + 1 + 1, 2, none⟩ = some (.bool b.o2)) := Lib.hid (below_some hb5 _ _ _ (below_some hb4 _ _ _ (below_some hb3 _ _ _ (below_some hb2 _ _ _ (below_some hb1 _ _ _ (cell_nu (by simp) rfl))))))
  have Fb3 : Hid (w5.cell? ⟨w.heap.size + 1 + 1, 3, none⟩ = some (.bool b.o3)) := Lib.hid (below_some hb5 _ _ _ (below_some hb4 _ _ _ (below_some hb3 _ _ _ (below_some hb2 _ _ _ (below_some hb1 _ _ _ (cell_nu (by simp) rfl))))))
  have Fb4 : Hid (w5.cell? ⟨w.heap.size + 1 + 1, 4, none⟩ = some (.bool b.o4)) := Lib.hid (below_some hb5 _ _ _ (below_some hb4 _ _ _ (below_some hb3 _ _ _ (below_some hb2 _ _ _ (below_some hb1 _ _ _ (cell_nu (by simp) rfl))))))
  have Fb5 : Hid (w5.cell? ⟨w.heap.size + 1 + 1, 5, none⟩ = some (.bool b.o5)) := Lib.hid (below_some hb5 _ _ _ (below_some hb4 _ _ _ (below_some hb3 _ _ _ (below_some hb2 _ _ _ (below_some hb1 _ _ _ (cell_nu (by simp) rfl))))))
  have Fb6 : Hid (w5.cell? ⟨w.heap.size + 1 + 1, 6, none⟩ = some (.bool b.o6)) := Lib.hid (below_some hb5 _ _ _ (below_some hb4 _ _ _ (below_some hb3 _ _ _ (below_some hb2 _ _ _ (below_some hb1 _ _ _ (cell_nu (by simp) rfl))))))
  have Fb7 : Hid (w5.cell? ⟨w.heap.size + 1 + 1, 7, none⟩ = some (.slice b.A b.rs.length b.cR)) := Lib.hid (below_some hb5 _ _ _ (below_some hb4 _ _ _ (below_some hb3 _ _ _ (below_some hb2 _ _ _ (below_some hb1 _ _ _ (cell_nu (by simp) rfl))))))
  have Fb8 : Hid (w5.cell? ⟨w.heap.size + 1 + 1, 8, none⟩ = some (.slice b.D b.ds.length b.cD)) := Lib.hid (below_some hb5 _ _ _ (below_some hb4 _ _ _ (below_some hb3 _ _ _ (below_some hb2 _ _ _ (below_some hb1 _ _ _ (cell_nu (by simp) rfl))))))
  have hL5 := Lib.hid (hL.below hB5); have hN5 := Lib.hid (hN.below hB5); have ia5 := Lib.hid (ia.below hB5); have ib5 := Lib.hid (ib.below hB5)
  have k5 : w.heap.size + 3 ≤ w5.heap.size := by omega
  have HB5 := Lib.hid hB5
  clear ia ib hL hN hc1 hf1 hB1 hb1 hz1 hc2 hf2 hB2 hb2 hz2 hc3 hf3 hB3 hb3 hz3 hc4 hf4 hB4 hb4 hz4 hc5 hf5 hB5 hb5 hz5
  clear fa fb ma mb
  try clear le_w_w1
  try clear lt_w_w1
  try clear le1_w_w1
  try clear lt1_w_w1
  try clear le2_w_w1
  try clear lt2_w_w1
  try clear le_w_w2
  try clear lt_w_w2
  try clear le1_w_w2
  try clear lt1_w_w2
  try clear le2_w_w2
  try clear lt2_w_w2
  try clear le_w_w3
  try clear lt_w_w3
  try clear le1_w_w3
  try clear lt1_w_w3
  try clear le2_w_w3
  try clear lt2_w_w3
  try clear le_w_w4
  try clear lt_w_w4
  try clear le1_w_w4
  try clear lt1_w_w4
  try clear le2_w_w4
  try clear lt2_w_w4
  try clear le_w_w5
  try clear lt_w_w5
  try clear le1_w_w5
  try clear lt1_w_w5
  try clear le2_w_w5
  try clear lt2_w_w5
  try clear le_w1_w2
  try clear lt_w1_w2
  try clear le1_w1_w2
  try clear lt1_w1_w2
  try clear le2_w1_w2
  try clear lt2_w1_w2
  try clear le_w1_w3
  try clear lt_w1_w3
  try clear le1_w1_w3
  try clear lt1_w1_w3
  try clear le2_w1_w3
  try clear lt2_w1_w3
  try clear le_w1_w4
  try clear lt_w1_w4
  try clear le1_w1_w4
  try clear lt1_w1_w4
  try clear le2_w1_w4
  try clear lt2_w1_w4
  try clear le_w1_w5
  try clear lt_w1_w5
  try clear le1_w1_w5
  try clear lt1_w1_w5
  try clear le2_w1_w5
  try clear lt2_w1_w5
  try clear le_w2_w3
  try clear lt_w2_w3
  try clear le1_w2_w3
  try clear lt1_w2_w3
  try clear le2_w2_w3
  try clear lt2_w2_w3
  try clear le_w2_w4
  try clear lt_w2_w4
  try clear le1_w2_w4
  try clear lt1_w2_w4
  try clear le2_w2_w4
  try clear lt2_w2_w4
  try clear le_w2_w5
  try clear lt_w2_w5
  try clear le1_w2_w5
  try clear lt1_w2_w5
  try clear le2_w2_w5
  try clear lt2_w2_w5
  try clear le_w3_w4
  try clear lt_w3_w4
  try clear le1_w3_w4
  try clear lt1_w3_w4
  try clear le2_w3_w4
  try clear lt2_w3_w4
  try clear le_w3_w5
  try clear lt_w3_w5
  try clear le1_w3_w5
  try clear lt1_w3_w5
  try clear le2_w3_w5
  try clear lt2_w3_w5
  try clear le_w4_w5
  try clear lt_w4_w5
  try clear le1_w4_w5
  try clear lt1_w4_w5
  try clear le2_w4_w5
  try clear lt2_w4_w5
  have h9 : Hid (Below w5.heap.size w5 w5) := Lib.hid (Below.refl _ _)
  have da0 := below_some h9.out _ _ _ Fa0.out
  have da1 := below_some h9.out _ _ _ Fa1.out
  have da2 := below_some h9.out _ _ _ Fa2.out
  have da3 := below_some h9.out _ _ _ Fa3.out
  have da4 := below_some h9.out _ _ _ Fa4.out
  have da5 := below_some h9.out _ _ _ Fa5.out
  have da6 := below_some h9.out _ _ _ Fa6.out
  have da7 := below_some h9.out _ _ _ Fa7.out
  have da8 := below_some h9.out _ _ _ Fa8.out
  have db0 := below_some h9.out _ _ _ Fb0.out
  have db1 := below_some h9.out _ _ _ Fb1.out
  have db2 := below_some h9.out _ _ _ Fb2.out
  have db3 := below_some h9.out _ _ _ Fb3.out
  have db4 := below_some h9.out _ _ _ Fb4.out
  have db5 := below_some h9.out _ _ _ Fb5.out
  have db6 := below_some h9.out _ _ _ Fb6.out
  have db7 := below_some h9.out _ _ _ Fb7.out
  have db8 := below_some h9.out _ _ _ Fb8.out
  (try go_simp); (repeat (first | ((with_reducible refine wp_region_app ?_); simp only [List.cons_append, List.nil_append]) | go_values | go_skip | go_guarded | go_step | go_upon))
  refine (union_not a b HMA.out HMB.out HFA.out HFB.out UAB.out _ (hL5.out.below (by have h9 := h9.out; repeat (first | (with_reducible assumption) | (with_reducible exact Below.refl _ _) | (with_reducible refine Below.drew ?_) | (with_reducible refine below_drewN' ?_ _) | (with_reducible refine below_al ?_) | ((with_reducible refine below_set ?_ ?_); rotate_left; focus (first | (simp; done) | (simp; omega)))))) (hN5.out.below (by have h9 := h9.out; repeat (first | (with_reducible assumption) | (with_reducible exact Below.refl _ _) | (with_reducible refine Below.drew ?_) | (with_reducible refine below_drewN' ?_ _) | (with_reducible refine below_al ?_) | ((with_reducible refine below_set ?_ ?_); rotate_left; focus (first | (simp; done) | (simp; omega)))))) (ia5.out.below (by have h9 := h9.out; repeat (first | (with_reducible assumption) | (with_reducible exact Below.refl _ _) | (with_reducible refine Below.drew ?_) | (with_reducible refine below_drewN' ?_ _) | (with_reducible refine below_al ?_) | ((with_reducible refine below_set ?_ ?_); rotate_left; focus (first | (simp; done) | (simp; omega)))))) (ib5.out.below (by have h9 := h9.out; repeat (first | (with_reducible assumption) | (with_reducible exact Below.refl _ _) | (with_reducible refine Below.drew ?_) | (with_reducible refine below_drewN' ?_ _) | (with_reducible refine below_al ?_) | ((with_reducible refine below_set ?_ ?_); rotate_left; focus (first | (simp; done) | (simp; omega))))))).mono ?_; rintro e w6 ⟨hb6, rfl⟩
  have h9' := Lib.hid (below_step (w := w5) hb6 (by have h9 := h9.out; repeat (first | (with_reducible assumption) | (with_reducible exact Below.refl _ _) | (with_reducible refine Below.drew ?_) | (with_reducible refine below_drewN' ?_ _) | (with_reducible refine below_al ?_) | ((with_reducible refine below_set ?_ ?_); rotate_left; focus (first | (simp; done) | (simp; omega)))))); clear h9; have h9 := h9'; clear h9'
  have k_w6 : w5.heap.size ≤ w6.heap.size := h9.out.size
  have l1_w6 : w.heap.size + 1 < w6.heap.size := by omega
  have l2_w6 : w.heap.size + 1 + 1 < w6.heap.size := by omega
  clear da0 da1 da2 da3 da4 da5 da6 da7 da8
  clear db0 db1 db2 db3 db4 db5 db6 db7 db8
  clear hb6
  have da0 := below_some h9.out _ _ _ Fa0.out
  have da1 := below_some h9.out _ _ _ Fa1.out
  have da2 := below_some h9.out _ _ _ Fa2.out
  have da3 := below_some h9.out _ _ _ Fa3.out
  have da4 := below_some h9.out _ _ _ Fa4.out
  have da5 := below_some h9.out _ _ _ Fa5.out
  have da6 := below_some h9.out _ _ _ Fa6.out
  have da7 := below_some h9.out _ _ _ Fa7.out
  have da8 := below_some h9.out _ _ _ Fa8.out
  have db0 := below_some h9.out _ _ _ Fb0.out
  have db1 := below_some h9.out _ _ _ Fb1.out
  have db2 := below_some h9.out _ _ _ Fb2.out
  have db3 := below_some h9.out _ _ _ Fb3.out
  have db4 := below_some h9.out _ _ _ Fb4.out
  have db5 := below_some h9.out _ _ _ Fb5.out
  have db6 := below_some h9.out _ _ _ Fb6.out
  have db7 := below_some h9.out _ _ _ Fb7.out
  have db8 := below_some h9.out _ _ _ Fb8.out
  (try go_simp); (repeat (first | ((with_reducible refine wp_region_app ?_); simp only [List.cons_append, List.nil_append]) | go_values | go_skip | go_guarded | go_step | go_upon))
  refine (runiN_c a b HMA.out HMB.out HFA.out HFB.out UAB.out _ (ia5.out.below (by have h9 := h9.out; repeat (first | (with_reducible assumption) | (with_reducible exact Below.refl _ _) | (with_reducible refine Below.drew ?_) | (with_reducible refine below_drewN' ?_ _) | (with_reducible refine below_al ?_) | ((with_reducible refine below_set ?_ ?_); rotate_left; focus (first | (simp; done) | (simp; omega)))))) (ib5.out.below (by have h9 := h9.out; repeat (first | (with_reducible assumption) | (with_reducible exact Below.refl _ _) | (with_reducible refine Below.drew ?_) | (with_reducible refine below_drewN' ?_ _) | (with_reducible refine below_al ?_) | ((with_reducible refine below_set ?_ ?_); rotate_left; focus (first | (simp; done) | (simp; omega))))))).mono ?_; rintro e w7 ⟨hb7, rfl⟩
  have h9' := Lib.hid (below_step (w := w5) hb7 (by have h9 := h9.out; repeat (first | (with_reducible assumption) | (with_reducible exact Below.refl _ _) | (with_reducible refine Below.drew ?_) | (with_reducible refine below_drewN' ?_ _) | (with_reducible refine below_al ?_) | ((with_reducible refine below_set ?_ ?_); rotate_left; focus (first | (simp; done) | (simp; omega)))))); clear h9; have h9 := h9'; clear h9'
  have k_w7 : w5.heap.size ≤ w7.heap.size := h9.out.size
  have l1_w7 : w.heap.size + 1 < w7.heap.size := by omega
  have l2_w7 : w.heap.size + 1 + 1 < w7.heap.size := by omega
  clear da0 da1 da2 da3 da4 da5 da6 da7 da8
  clear db0 db1 db2 db3 db4 db5 db6 db7 db8
  have Fx0 : Hid (w7.cell? ⟨w6.heap.size, 0, none⟩ = some (.bool false)) := Lib.hid (below_some hb7 _ _ _ (cell_nu rfl rfl))
  have Fx1 : Hid (w7.cell? ⟨w6.heap.size, 1, none⟩ = some (.bool false)) := Lib.hid (below_some hb7 _ _ _ (cell_nu rfl rfl))
  have Fx2 : Hid (w7.cell? ⟨w6.heap.size, 2, none⟩ = some (.bool false)) := Lib.hid (below_some hb7 _ _ _ (cell_nu rfl rfl))
  have Fx3 : Hid (w7.cell? ⟨w6.heap.size, 3, none⟩ = some (.bool false)) := Lib.hid (below_some hb7 _ _ _ (cell_nu rfl rfl))
  have Fx4 : Hid (w7.cell? ⟨w6.heap.size, 4, none⟩ = some (.bool false)) := Lib.hid (below_some hb7 _ _ _ (cell_nu rfl rfl))
  have Fx5 : Hid (w7.cell? ⟨w6.heap.size, 5, none⟩ = some (.bool false)) := Lib.hid (below_some hb7 _ _ _ (cell_nu rfl rfl))
  have Fx6 : Hid (w7.cell? ⟨w6.heap.size, 6, none⟩ = some (.bool false)) := Lib.hid (below_some hb7 _ _ _ (cell_nu rfl rfl))
  have Fx7 : Hid (w7.cell? ⟨w6.heap.size, 7, none⟩ = some (.slice none 0 0)) := Lib.hid (below_some hb7 _ _ _ (cell_nu rfl rfl))
  have Fx8 : Hid (w7.cell? ⟨w6.heap.size, 8, none⟩ = some (.slice none 0 0)) := Lib.hid (below_some hb7 _ _ _ (cell_nu rfl rfl))
  have b67 : Hid (Below w6.heap.size w6 w7) := Lib.hid (below_step (w := w6) hb7 (below_al (Below.refl _ _))); clear hb7
  have da0 := below_some h9.out _ _ _ Fa0.out
  have da1 := below_some h9.out _ _ _ Fa1.out
  have da2 := below_some h9.out _ _ _ Fa2.out
  have da3 := below_some h9.out _ _ _ Fa3.out
  have da4 := below_some h9.out _ _ _ Fa4.out
  have da5 := below_some h9.out _ _ _ Fa5.out
  have da6 := below_some h9.out _ _ _ Fa6.out
  have da7 := below_some h9.out _ _ _ Fa7.out
  have da8 := below_some h9.out _ _ _ Fa8.out
  (try go_simp); (repeat (first | ((with_reducible refine wp_region_app ?_); simp only [List.cons_append, List.nil_append]) | go_values | go_skip | go_guarded | go_step | go_upon))
  refine (cmany_c a n m hka.out x c hR _ (hL5.out.below (by have h9 := h9.out; repeat (first | (with_reducible assumption) | (with_reducible exact Below.refl _ _) | (with_reducible refine Below.drew ?_) | (with_reducible refine below_drewN' ?_ _) | (with_reducible refine below_al ?_) | ((with_reducible refine below_set ?_ ?_); rotate_left; focus (first | (simp; done) | (simp; omega)))))) (ia5.out.below (by have h9 := h9.out; repeat (first | (with_reducible assumption) | (with_reducible exact Below.refl _ _) | (with_reducible refine Below.drew ?_) | (with_reducible refine below_drewN' ?_ _) | (with_reducible refine below_al ?_) | ((with_reducible refine below_set ?_ ?_); rotate_left; focus (first | (simp; done) | (simp; omega))))))).mono ?_; rintro e w8 ⟨rfl, hb8⟩
  have h9' := Lib.hid (below_step (w := w5) hb8 (by have h9 := h9.out; repeat (first | (with_reducible assumption) | (with_reducible exact Below.refl _ _) | (with_reducible refine Below.drew ?_) | (with_reducible refine below_drewN' ?_ _) | (with_reducible refine below_al ?_) | ((with_reducible refine below_set ?_ ?_); rotate_left; focus (first | (simp; done) | (simp; omega)))))); clear h9; have h9 := h9'; clear h9'
  have k_w8 : w5.heap.size ≤ w8.heap.size := h9.out.size
  have l1_w8 : w.heap.size + 1 < w8.heap.size := by omega
  have l2_w8 : w.heap.size + 1 + 1 < w8.heap.size := by omega
  clear da0 da1 da2 da3 da4 da5 da6 da7 da8
  have Fy0 : Hid (w8.cell? ⟨w7.heap.size, 0, none⟩ = some (.bool false)) := Lib.hid (below_some hb8 _ _ _ (cell_nu rfl rfl))
  have Fy1 : Hid (w8.cell? ⟨w7.heap.size, 1, none⟩ = some (.bool false)) := Lib.hid (below_some hb8 _ _ _ (cell_nu rfl rfl))
  have Fy2 : Hid (w8.cell? ⟨w7.heap.size, 2, none⟩ = some (.bool false)) := Lib.hid (below_some hb8 _ _ _ (cell_nu rfl rfl))
  have Fy3 : Hid (w8.cell? ⟨w7.heap.size, 3, none⟩ = some (.bool false)) := Lib.hid (below_some hb8 _ _ _ (cell_nu rfl rfl))
  have Fy4 : Hid (w8.cell? ⟨w7.heap.size, 4, none⟩ = some (.bool false)) := Lib.hid (below_some hb8 _ _ _ (cell_nu rfl rfl))
  have Fy5 : Hid (w8.cell? ⟨w7.heap.size, 5, none⟩ = some (.bool false)) := Lib.hid (below_some hb8 _ _ _ (cell_nu rfl rfl))
  have Fy6 : Hid (w8.cell? ⟨w7.heap.size, 6, none⟩ = some (.bool false)) := Lib.hid (below_some hb8 _ _ _ (cell_nu rfl rfl))
  have Fy7 : Hid (w8.cell? ⟨w7.heap.size, 7, none⟩ = some (.slice none 0 0)) := Lib.hid (below_some hb8 _ _ _ (cell_nu rfl rfl))
  have Fy8 : Hid (w8.cell? ⟨w7.heap.size, 8, none⟩ = some (.slice none 0 0)) := Lib.hid (below_some hb8 _ _ _ (cell_nu rfl rfl))
  have b78 : Hid (Below w7.heap.size w7 w8) := Lib.hid (below_step (w := w7) hb8 (below_al (Below.refl _ _))); clear hb8
  have da0 := below_some h9.out _ _ _ Fa0.out
  have da1 := below_some h9.out _ _ _ Fa1.out
  have da2 := below_some h9.out _ _ _ Fa2.out
  have da3 := below_some h9.out _ _ _ Fa3.out
  have da4 := below_some h9.out _ _ _ Fa4.out
  have da5 := below_some h9.out _ _ _ Fa5.out
  have da6 := below_some h9.out _ _ _ Fa6.out
  have da7 := below_some h9.out _ _ _ Fa7.out
  have da8 := below_some h9.out _ _ _ Fa8.out
  (try go_simp); (repeat (first | ((with_reducible refine wp_region_app ?_); simp only [List.cons_append, List.nil_append]) | go_values | go_skip | go_guarded | go_step | go_upon))
  refine (rmany_c a n m hka.out x c hR _ (hL5.out.below (by have h9 := h9.out; repeat (first | (with_reducible assumption) | (with_reducible exact Below.refl _ _) | (with_reducible refine Below.drew ?_) | (with_reducible refine below_drewN' ?_ _) | (with_reducible refine below_al ?_) | ((with_reducible refine below_set ?_ ?_); rotate_left; focus (first | (simp; done) | (simp; omega)))))) (ia5.out.below (by have h9 := h9.out; repeat (first | (with_reducible assumption) | (with_reducible exact Below.refl _ _) | (with_reducible refine Below.drew ?_) | (with_reducible refine below_drewN' ?_ _) | (with_reducible refine below_al ?_) | ((with_reducible refine below_set ?_ ?_); rotate_left; focus (first | (simp; done) | (simp; omega))))))).mono ?_; rintro e w9 ⟨rfl, hb9⟩
  have h9' := Lib.hid (below_step (w := w5) hb9 (by have h9 := h9.out; repeat (first | (with_reducible assumption) | (with_reducible exact Below.refl _ _) | (with_reducible refine Below.drew ?_) | (with_reducible refine below_drewN' ?_ _) | (with_reducible refine below_al ?_) | ((with_reducible refine below_set ?_ ?_); rotate_left; focus (first | (simp; done) | (simp; omega)))))); clear h9; have h9 := h9'; clear h9'
  have k_w9 : w5.heap.size ≤ w9.heap.size := h9.out.size
  have l1_w9 : w.heap.size + 1 < w9.heap.size := by omega
  have l2_w9 : w.heap.size + 1 + 1 < w9.heap.size := by omega
  clear da0 da1 da2 da3 da4 da5 da6 da7 da8
  have b79 : Below w7.heap.size w7 w9 := b78.out.trans (hb9.mono b78.out.size)
  have b69 : Below w6.heap.size w6 w9 := b67.out.trans (b79.mono b67.out.size)
  have dx0 := below_some b79 _ _ _ Fx0.out
  have dy0 := below_some hb9 _ _ _ Fy0.out
  have dx1 := below_some b79 _ _ _ Fx1.out
  have dy1 := below_some hb9 _ _ _ Fy1.out
  have dx2 := below_some b79 _ _ _ Fx2.out
  have dy2 := below_some hb9 _ _ _ Fy2.out
  have dx3 := below_some b79 _ _ _ Fx3.out
  have dy3 := below_some hb9 _ _ _ Fy3.out
  have dx4 := below_some b79 _ _ _ Fx4.out
  have dy4 := below_some hb9 _ _ _ Fy4.out
  have dx5 := below_some b79 _ _ _ Fx5.out
  have dy5 := below_some hb9 _ _ _ Fy5.out
  have dx6 := below_some b79 _ _ _ Fx6.out
  have dy6 := below_some hb9 _ _ _ Fy6.out
  have dx7 := below_some b79 _ _ _ Fx7.out
  have dy7 := below_some hb9 _ _ _ Fy7.out
  have dx8 := below_some b79 _ _ _ Fx8.out
  have dy8 := below_some hb9 _ _ _ Fy8.out
  clear b79 b69 hb9
  (try go_simp); (repeat (first | ((with_reducible refine wp_region_app ?_); simp only [List.cons_append, List.nil_append]) | go_values | go_skip | go_guarded | go_step | go_upon))
  refine (sameN_c _).mono ?_; rintro e w10 ⟨rfl, hb10⟩
  have hB10 : Below w.heap.size w w10 := HB5.out.trans ((below_step (w := w5) hb10 (by have h9 := h9.out; repeat (first | (with_reducible assumption) | (with_reducible exact Below.refl _ _) | (with_reducible refine Below.drew ?_) | (with_reducible refine below_drewN' ?_ _) | (with_reducible refine below_al ?_) | ((with_reducible refine below_set ?_ ?_); rotate_left; focus (first | (simp; done) | (simp; omega)))))).mono HB5.out.size)
  (try go_simp); (repeat (first | ((with_reducible refine wp_region_app ?_); simp only [List.cons_append, List.nil_append]) | go_values | go_skip | go_guarded | go_step | go_upon))
  go_ret
  exact ⟨rfl, hB10⟩
set_option maxRecDepth 100000 in
set_option maxHeartbeats 8000000 in
theorem calUnites_g2y (a b : CalP) (n m : Int) (fa : a.few = true) (fb : b.few = true) (ma : a.may = true) (mb : b.may = true) (t1 : decide (n < m) = true) (d : Int) (sd : IntKind.i64.wrap (m - n) = d) (t2 : decide (100 < d) = false) (x c : Int) (hR : Hid (many a n m = (x, c))) (sc : IntKind.i64.wrap c = c) (sx : (x == x) = true) (scc : (c == c) = true) (uab : uopen a b = true) (p0 p1 p2 p3 p4 p5 p6 : Bool) (hp : Hid ((a.o0 || b.o0) = p0 ∧ (a.o1 || b.o1) = p1 ∧ (a.o2 || b.o2) = p2 ∧ (a.o3 || b.o3) = p3 ∧ (a.o4 || b.o4) = p4 ∧ (a.o5 || b.o5) = p5 ∧ (a.o6 || b.o6) = p6)) (rs' : List R8) (hrs : Hid (a.rs ++ b.rs = rs')) (ds' : List Int) (hds : Hid (uds a.ds b.ds = ds')) (lr : rs'.length ≤ 1000000) (ld : ds'.length ≤ 1000000)  (w : World) (hL : Laid w) (hN : AllOff w) (ia : CalIn w a) (ib : CalIn w b) : Calls Tryd.prog 10 #[.agg #[.bool a.o0, .bool a.o1, .bool a.o2, .bool a.o3, .bool a.o4, .bool a.o5, .bool a.o6, .slice a.A a.rs.length a.cR, .slice a.D a.ds.length a.cD, .bool b.o0, .bool b.o1, .bool b.o2, .bool b.o3, .bool b.o4, .bool b.o5, .bool b.o6, .slice b.A b.rs.length b.cR, .slice b.D b.ds.length b.cD, .int .i64 n, .int .i64 m]] w fun e w' => e = .returned (.bool true) ∧ Below w.heap.size w w' := by
  have hka := Lib.hid (CalP.ok ma)
  have UAB := Lib.hid uab; clear uab
  have HMA := Lib.hid ma; have HMB := Lib.hid mb; have HFA := Lib.hid fa; have HFB := Lib.hid fb
  have hB : Below w.heap.size w w := Below.refl _ _
  go_enter Tryd.func10, Tryd.ntmps10
  (try go_simp); (repeat (first | ((with_reducible refine wp_region_app ?_); simp only [List.cons_append, List.nil_append]) | go_values | go_skip | go_guarded | go_step | go_upon))
  refine (shown13_c _ (hL.below (by repeat (first | assumption | exact Below.refl _ _ | (with_reducible refine Below.drew ?_) | (with_reducible refine below_drewN' ?_ _) | (with_reducible refine below_al ?_) | ((with_reducible refine below_set ?_ ?_); rotate_left; focus (first | (simp; done) | (simp; omega)))))) (hN.below (by repeat (first | assumption | exact Below.refl _ _ | (with_reducible refine Below.drew ?_) | (with_reducible refine below_drewN' ?_ _) | (with_reducible refine below_al ?_) | ((with_reducible refine below_set ?_ ?_); rotate_left; focus (first | (simp; done) | (simp; omega))))))).mono ?_; rintro e w1 ⟨rfl, hb1⟩
  have hz1 := hb1.size; (try simp at hz1); obtain ⟨hc1, hf1⟩ := bcell hb1; have hB1 := below_step (w := w) hb1 (by repeat (first | assumption | exact Below.refl _ _ | (with_reducible refine Below.drew ?_) | (with_reducible refine below_drewN' ?_ _) | (with_reducible refine below_al ?_) | ((with_reducible refine below_set ?_ ?_); rotate_left; focus (first | (simp; done) | (simp; omega)))))
  have le_w_w1 : w.heap.size ≤ w1.heap.size := by omega
  try have lt_w_w1 : w.heap.size < w1.heap.size := by omega
  have le1_w_w1 : w.heap.size + 1 ≤ w1.heap.size := by omega
  try have lt1_w_w1 : w.heap.size + 1 < w1.heap.size := by omega
  have le2_w_w1 : w.heap.size + 2 ≤ w1.heap.size := by omega
  try have lt2_w_w1 : w.heap.size + 2 < w1.heap.size := by omega
  (try go_simp); (repeat (first | ((with_reducible refine wp_region_app ?_); simp only [List.cons_append, List.nil_append]) | go_values | go_skip | go_guarded | go_step | go_upon))
  refine (few_c a _).mono ?_; rintro e w2 ⟨rfl, hb2⟩
  have hz2 := hb2.size; (try simp at hz2); obtain ⟨hc2, hf2⟩ := bcell hb2; have hB2 := below_step (w := w) hb2 (by repeat (first | assumption | exact Below.refl _ _ | (with_reducible refine Below.drew ?_) | (with_reducible refine below_drewN' ?_ _) | (with_reducible refine below_al ?_) | ((with_reducible refine below_set ?_ ?_); rotate_left; focus (first | (simp; done) | (simp; omega)))))
  have le_w_w2 : w.heap.size ≤ w2.heap.size := by omega
  try have lt_w_w2 : w.heap.size < w2.heap.size := by omega
  have le1_w_w2 : w.heap.size + 1 ≤ w2.heap.size := by omega
  try have lt1_w_w2 : w.heap.size + 1 < w2.heap.size := by omega
  have le2_w_w2 : w.heap.size + 2 ≤ w2.heap.size := by omega
  try have lt2_w_w2 : w.heap.size + 2 < w2.heap.size := by omega
  have le_w1_w2 : w1.heap.size ≤ w2.heap.size := by omega
  try have lt_w1_w2 : w1.heap.size < w2.heap.size := by omega
  (try go_simp); (repeat (first | ((with_reducible refine wp_region_app ?_); simp only [List.cons_append, List.nil_append]) | go_values | go_skip | go_guarded | go_step | go_upon))
  refine (few_c b _).mono ?_; rintro e w3 ⟨rfl, hb3⟩
  have hz3 := hb3.size; (try simp at hz3); obtain ⟨hc3, hf3⟩ := bcell hb3; have hB3 := below_step (w := w) hb3 (by repeat (first | assumption | exact Below.refl _ _ | (with_reducible refine Below.drew ?_) | (with_reducible refine below_drewN' ?_ _) | (with_reducible refine below_al ?_) | ((with_reducible refine below_set ?_ ?_); rotate_left; focus (first | (simp; done) | (simp; omega)))))
  have le_w_w3 : w.heap.size ≤ w3.heap.size := by omega
  try have lt_w_w3 : w.heap.size < w3.heap.size := by omega
  have le1_w_w3 : w.heap.size + 1 ≤ w3.heap.size := by omega
  try have lt1_w_w3 : w.heap.size + 1 < w3.heap.size := by omega
  have le2_w_w3 : w.heap.size + 2 ≤ w3.heap.size := by omega
  try have lt2_w_w3 : w.heap.size + 2 < w3.heap.size := by omega
  have le_w1_w3 : w1.heap.size ≤ w3.heap.size := by omega
  try have lt_w1_w3 : w1.heap.size < w3.heap.size := by omega
  have le_w2_w3 : w2.heap.size ≤ w3.heap.size := by omega
  try have lt_w2_w3 : w2.heap.size < w3.heap.size := by omega
  (try go_simp); (repeat (first | ((with_reducible refine wp_region_app ?_); simp only [List.cons_append, List.nil_append]) | go_values | go_skip | go_guarded | go_step | go_upon))
  refine (rcalMay_c a _ (ia.below (by repeat (first | assumption | exact Below.refl _ _ | (with_reducible refine Below.drew ?_) | (with_reducible refine below_drewN' ?_ _) | (with_reducible refine below_al ?_) | ((with_reducible refine below_set ?_ ?_); rotate_left; focus (first | (simp; done) | (simp; omega))))))).mono ?_; rintro e w4 ⟨rfl, hb4⟩
  have hz4 := hb4.size; (try simp at hz4); obtain ⟨hc4, hf4⟩ := bcell hb4; have hB4 := below_step (w := w) hb4 (by repeat (first | assumption | exact Below.refl _ _ | (with_reducible refine Below.drew ?_) | (with_reducible refine below_drewN' ?_ _) | (with_reducible refine below_al ?_) | ((with_reducible refine below_set ?_ ?_); rotate_left; focus (first | (simp; done) | (simp; omega)))))
  have le_w_w4 : w.heap.size ≤ w4.heap.size := by omega
  try have lt_w_w4 : w.heap.size < w4.heap.size := by omega
  have le1_w_w4 : w.heap.size + 1 ≤ w4.heap.size := by omega
  try have lt1_w_w4 : w.heap.size + 1 < w4.heap.size := by omega
  have le2_w_w4 : w.heap.size + 2 ≤ w4.heap.size := by omega
  try have lt2_w_w4 : w.heap.size + 2 < w4.heap.size := by omega
  have le_w1_w4 : w1.heap.size ≤ w4.heap.size := by omega
  try have lt_w1_w4 : w1.heap.size < w4.heap.size := by omega
  have le_w2_w4 : w2.heap.size ≤ w4.heap.size := by omega
  try have lt_w2_w4 : w2.heap.size < w4.heap.size := by omega
  have le_w3_w4 : w3.heap.size ≤ w4.heap.size := by omega
  try have lt_w3_w4 : w3.heap.size < w4.heap.size := by omega
  (try go_simp); (repeat (first | ((with_reducible refine wp_region_app ?_); simp only [List.cons_append, List.nil_append]) | go_values | go_skip | go_guarded | go_step | go_upon))
  refine (rcalMay_c b _ (ib.below (by repeat (first | assumption | exact Below.refl _ _ | (with_reducible refine Below.drew ?_) | (with_reducible refine below_drewN' ?_ _) | (with_reducible refine below_al ?_) | ((with_reducible refine below_set ?_ ?_); rotate_left; focus (first | (simp; done) | (simp; omega))))))).mono ?_; rintro e w5 ⟨rfl, hb5⟩
  have hz5 := hb5.size; (try simp at hz5); obtain ⟨hc5, hf5⟩ := bcell hb5; have hB5 := below_step (w := w) hb5 (by repeat (first | assumption | exact Below.refl _ _ | (with_reducible refine Below.drew ?_) | (with_reducible refine below_drewN' ?_ _) | (with_reducible refine below_al ?_) | ((with_reducible refine below_set ?_ ?_); rotate_left; focus (first | (simp; done) | (simp; omega)))))
  have le_w_w5 : w.heap.size ≤ w5.heap.size := by omega
  try have lt_w_w5 : w.heap.size < w5.heap.size := by omega
  have le1_w_w5 : w.heap.size + 1 ≤ w5.heap.size := by omega
  try have lt1_w_w5 : w.heap.size + 1 < w5.heap.size := by omega
  have le2_w_w5 : w.heap.size + 2 ≤ w5.heap.size := by omega
  try have lt2_w_w5 : w.heap.size + 2 < w5.heap.size := by omega
  have le_w1_w5 : w1.heap.size ≤ w5.heap.size := by omega
  try have lt_w1_w5 : w1.heap.size < w5.heap.size := by omega
  have le_w2_w5 : w2.heap.size ≤ w5.heap.size := by omega
  try have lt_w2_w5 : w2.heap.size < w5.heap.size := by omega
  have le_w3_w5 : w3.heap.size ≤ w5.heap.size := by omega
  try have lt_w3_w5 : w3.heap.size < w5.heap.size := by omega
  have le_w4_w5 : w4.heap.size ≤ w5.heap.size := by omega
  try have lt_w4_w5 : w4.heap.size < w5.heap.size := by omega
  have Fa0 : Hid (w5.cell? ⟨w.heap.size + 1, 0, none⟩ = some (.bool a.o0)) := Lib.hid (below_some hb5 _ _ _ (below_some hb4 _ _ _ (below_some hb3 _ _ _ (below_some hb2 _ _ _ (below_some hb1 _ _ _ (cell_al (cell_nu (by simp) rfl)))))))
  have Fa1 : Hid (w5.cell? ⟨w.heap.size + 1, 1, none⟩ = some (.bool a.o1)) := Lib.hid (below_some hb5 _ _ _ (below_some hb4 _ _ _ (below_some hb3 _ _ _ (below_some hb2 _ _ _ (below_some hb1 _ _ _ (cell_al (cell_nu (by simp) rfl)))))))
  have Fa2 : Hid (w5.cell? ⟨w.heap.size + 1, 2, none⟩ = some (.bool a.o2)) := Lib.hid (below_some hb5 _ _ _ (below_some hb4 _ _ _ (below_some hb3 _ _ _ (below_some hb2 _ _ _ (below_some hb1 _ _ _ (cell_al (cell_nu (by simp) rfl)))))))
  have Fa3 : Hid (w5.cell? ⟨w.heap.size + 1, 3, none⟩ = some (.bool a.o3)) := Lib.hid (below_some hb5 _ _ _ (below_some hb4 _ _ _ (below_some hb3 _ _ _ (below_some hb2 _ _ _ (below_some hb1 _ _ _ (cell_al (cell_nu (by simp) rfl)))))))
  have Fa4 : Hid (w5.cell? ⟨w.heap.size + 1, 4, none⟩ = some (.bool a.o4)) := Lib.hid (below_some hb5 _ _ _ (below_some hb4 _ _ _ (below_some hb3 _ _ _ (below_some hb2 _ _ _ (below_some hb1 _ _ _ (cell_al (cell_nu (by simp) rfl)))))))
  have Fa5 : Hid (w5.cell? ⟨w.heap.size + 1, 5, none⟩ = some (.bool a.o5)) := Lib.hid (below_some hb5 _ _ _ (below_some hb4 _ _ _ (below_some hb3 _ _ _ (below_some hb2 _ _ _ (below_some hb1 _ _ _ (cell_al (cell_nu (by simp) rfl)))))))
  have Fa6 : Hid (w5.cell? ⟨w.heap.size + 1, 6, none⟩ = some (.bool a.o6)) := Lib.hid (below_some hb5 _ _ _ (below_some hb4 _ _ _ (below_some hb3 _ _ _ (below_some hb2 _ _ _ (below_some hb1 _ _ _ (cell_al (cell_nu (by simp) rfl)))))))
  have Fa7 : Hid (w5.cell? ⟨w.heap.size + 1, 7, none⟩ = some (.slice a.A a.rs.length a.cR)) := Lib.hid (below_some hb5 _ _ _ (below_some hb4 _ _ _ (below_some hb3 _ _ _ (below_some hb2 _ _ _ (below_some hb1 _ _ _ (cell_al (cell_nu (by simp) rfl)))))))
  have Fa8 : Hid (w5.cell? ⟨w.heap.size + 1, 8, none⟩ = some (.slice a.D a.ds.length a.cD)) := Lib.hid (below_some hb5 _ _ _ (below_some hb4 _ _ _ (below_some hb3 _ _ _ (below_some hb2 _ _ _ (below_some hb1 _ _ _ (cell_al (cell_nu (by simp) rfl)))))))
  have Fb0 : Hid (w5.cell? ⟨w.heap.size + 1 + 1, 0, none⟩ = some (.bool b.o0)) := Lib.hid (below_some hb5 _ _ _ (below_some hb4 _ _ _ (below_some hb3 _ _ _ (below_some hb2 _ _ _ (below_some hb1 _ _ _ (cell_nu (by simp) rfl))))))
  have Fb1 : Hid (w5.cell? ⟨w.heap.size + 1 + 1, 1, none⟩ = some (.bool b.o1)) := Lib.hid (below_some hb5 _ _ _ (below_some hb4 _ _ _ (below_some hb3 _ _ _ (below_some hb2 _ _ _ (below_some hb1 _ _ _ (cell_nu (by simp) rfl))))))
  have Fb2 : Hid (w5.cell? ⟨w.heap.size + 1 + 1, 2, none⟩ = some (.bool b.o2)) := Lib.hid (below_some hb5 _ _ _ (below_some hb4 _ _ _ (below_some hb3 _ _ _ (below_some hb2 _ _ _ (below_some hb1 _ _ _ (cell_nu (by simp) rfl))))))
  have Fb3 : Hid (w5.cell? ⟨w.heap.size + 1 + 1, 3, none⟩ = some (.bool b.o3)) := Lib.hid (below_some hb5 _ _ _ (below_some hb4 _ _ _ (below_some hb3 _ _ _ (below_some hb2 _ _ _ (below_some hb1 _ _ _ (cell_nu (by simp) rfl))))))
  have Fb4 : Hid (w5.cell? ⟨w.heap.size + 1 + 1, 4, none⟩ = some (.bool b.o4)) := Lib.hid (below_some hb5 _ _ _ (below_some hb4 _ _ _ (below_some hb3 _ _ _ (below_some hb2 _ _ _ (below_some hb1 _ _ _ (cell_nu (by simp) rfl))))))
  have Fb5 : Hid (w5.cell? ⟨w.heap.size + 1 + 1, 5, none⟩ = some (.bool b.o5)) := Lib.hid (below_some hb5 _ _ _ (below_some hb4 _ _ _ (below_some hb3 _ _ _ (below_some hb2 _ _ _ (below_some hb1 _ _ _ (cell_nu (by simp) rfl))))))
  have Fb6 : Hid (w5.cell? ⟨w.heap.size + 1 + 1, 6, none⟩ = some (.bool b.o6)) := Lib.hid (below_some hb5 _ _ _ (below_some hb4 _ _ _ (below_some hb3 _ _ _ (below_some hb2 _ _ _ (below_some hb1 _ _ _ (cell_nu (by simp) rfl))))))
  have Fb7 : Hid (w5.cell? ⟨w.heap.size + 1 + 1, 7, none⟩ = some (.slice b.A b.rs.length b.cR)) := Lib.hid (below_some hb5 _ _ _ (below_some hb4 _ _ _ (below_some hb3 _ _ _ (below_some hb2 _ _ _ (below_some hb1 _ _ _ (cell_nu (by simp) rfl))))))
  have Fb8 : Hid (w5.cell? ⟨w.heap.size + 1 + 1, 8, none⟩ = some (.slice b.D b.ds.length b.cD)) := Lib.hid (below_some hb5 _ _ _ (below_some hb4 _ _ _ (below_some hb3 _ _ _ (below_some hb2 _ _ _ (below_some hb1 _ _ _ (cell_nu (by simp) rfl))))))
  have hL5 := Lib.hid (hL.below hB5); have hN5 := Lib.hid (hN.below hB5); have ia5 := Lib.hid (ia.below hB5); have ib5 := Lib.hid (ib.below hB5)
  have k5 : w.heap.size + 3 ≤ w5.heap.size := by omega
  have HB5 := Lib.hid hB5
  clear ia ib hL hN hc1 hf1 hB1 hb1 hz1 hc2 hf2 hB2 hb2 hz2 hc3 hf3 hB3 hb3 hz3 hc4 hf4 hB4 hb4 hz4 hc5 hf5 hB5 hb5 hz5
  clear fa fb ma mb
  try clear le_w_w1
  try clear lt_w_w1
  try clear le1_w_w1
  try clear lt1_w_w1
  try clear le2_w_w1
  try clear lt2_w_w1
  try clear le_w_w2
  try clear lt_w_w2
  try clear le1_w_w2
  try clear lt1_w_w2
  try clear le2_w_w2
  try clear lt2_w_w2
  try clear le_w_w3
  try clear lt_w_w3
  try clear le1_w_w3
  try clear lt1_w_w3
  try clear le2_w_w3
  try clear lt2_w_w3
  try clear le_w_w4
  try clear lt_w_w4
  try clear le1_w_w4
  try clear lt1_w_w4
  try clear le2_w_w4
  try clear lt2_w_w4
  try clear le_w_w5
  try clear lt_w_w5
  try clear le1_w_w5
  try clear lt1_w_w5
  try clear le2_w_w5
  try clear lt2_w_w5
  try clear le_w1_w2
  try clear lt_w1_w2
  try clear le1_w1_w2
  try clear lt1_w1_w2
  try clear le2_w1_w2
  try clear lt2_w1_w2
  try clear le_w1_w3
  try clear lt_w1_w3
  try clear le1_w1_w3
  try clear lt1_w1_w3
  try clear le2_w1_w3
  try clear lt2_w1_w3
  try clear le_w1_w4
  try clear lt_w1_w4
  try clear le1_w1_w4
  try clear lt1_w1_w4
  try clear le2_w1_w4
  try clear lt2_w1_w4
  try clear le_w1_w5
  try clear lt_w1_w5
  try clear le1_w1_w5
  try clear lt1_w1_w5
  try clear le2_w1_w5
  try clear lt2_w1_w5
  try clear le_w2_w3
  try clear lt_w2_w3
  try clear le1_w2_w3
  try clear lt1_w2_w3
  try clear le2_w2_w3
  try clear lt2_w2_w3
  try clear le_w2_w4
  try clear lt_w2_w4
  try clear le1_w2_w4
  try clear lt1_w2_w4
  try clear le2_w2_w4
  try clear lt2_w2_w4
  try clear le_w2_w5
  try clear lt_w2_w5
  try clear le1_w2_w5
  try clear lt1_w2_w5
  try clear le2_w2_w5
  try clear lt2_w2_w5
  try clear le_w3_w4
  try clear lt_w3_w4
  try clear le1_w3_w4
  try clear lt1_w3_w4
  try clear le2_w3_w4
  try clear lt2_w3_w4
  try clear le_w3_w5
  try clear lt_w3_w5
  try clear le1_w3_w5
  try clear lt1_w3_w5
  try clear le2_w3_w5
  try clear lt2_w3_w5
  try clear le_w4_w5
  try clear lt_w4_w5
  try clear le1_w4_w5
  try clear lt1_w4_w5
  try clear le2_w4_w5
  try clear lt2_w4_w5
  have h9 : Hid (Below w5.heap.size w5 w5) := Lib.hid (Below.refl _ _)
  have da0 := below_some h9.out _ _ _ Fa0.out
  have da1 := below_some h9.out _ _ _ Fa1.out
  have da2 := below_some h9.out _ _ _ Fa2.out
  have da3 := below_some h9.out _ _ _ Fa3.out
  have da4 := below_some h9.out _ _ _ Fa4.out
  have da5 := below_some h9.out _ _ _ Fa5.out
  have da6 := below_some h9.out _ _ _ Fa6.out
  have da7 := below_some h9.out _ _ _ Fa7.out
  have da8 := below_some h9.out _ _ _ Fa8.out
  have db0 := below_some h9.out _ _ _ Fb0.out
  have db1 := below_some h9.out _ _ _ Fb1.out
  have db2 := below_some h9.out _ _ _ Fb2.out
  have db3 := below_some h9.out _ _ _ Fb3.out
  have db4 := below_some h9.out _ _ _ Fb4.out
  have db5 := below_some h9.out _ _ _ Fb5.out
  have db6 := below_some h9.out _ _ _ Fb6.out
  have db7 := below_some h9.out _ _ _ Fb7.out
  have db8 := below_some h9.out _ _ _ Fb8.out
  (try go_simp); (repeat (first | ((with_reducible refine wp_region_app ?_); simp only [List.cons_append, List.nil_append]) | go_values | go_skip | go_guarded | go_step | go_upon))
  refine (uniY_c a b HMA.out HMB.out HFA.out HFB.out UAB.out p0 p1 p2 p3 p4 p5 p6 hp rs' hrs ds' hds _ (hL5.out.below (by have h9 := h9.out; repeat (first | (with_reducible assumption) | (with_reducible exact Below.refl _ _) | (with_reducible refine Below.drew ?_) | (with_reducible refine below_drewN' ?_ _) | (with_reducible refine below_al ?_) | ((with_reducible refine below_set ?_ ?_); rotate_left; focus (first | (simp; done) | (simp; omega)))))) (hN5.out.below (by have h9 := h9.out; repeat (first | (with_reducible assumption) | (with_reducible exact Below.refl _ _) | (with_reducible refine Below.drew ?_) | (with_reducible refine below_drewN' ?_ _) | (with_reducible refine below_al ?_) | ((with_reducible refine below_set ?_ ?_); rotate_left; focus (first | (simp; done) | (simp; omega)))))) (ia5.out.below (by have h9 := h9.out; repeat (first | (with_reducible assumption) | (with_reducible exact Below.refl _ _) | (with_reducible refine Below.drew ?_) | (with_reducible refine below_drewN' ?_ _) | (with_reducible refine below_al ?_) | ((with_reducible refine below_set ?_ ?_); rotate_left; focus (first | (simp; done) | (simp; omega)))))) (ib5.out.below (by have h9 := h9.out; repeat (first | (with_reducible assumption) | (with_reducible exact Below.refl _ _) | (with_reducible refine Below.drew ?_) | (with_reducible refine below_drewN' ?_ _) | (with_reducible refine below_al ?_) | ((with_reducible refine below_set ?_ ?_); rotate_left; focus (first | (simp; done) | (simp; omega))))))).mono ?_; rintro e w6 ⟨xA, xc, xD, xd, rfl, hxr, hxd, hb6⟩
  have h9' := Lib.hid (below_step (w := w5) hb6 (by have h9 := h9.out; repeat (first | (with_reducible assumption) | (with_reducible exact Below.refl _ _) | (with_reducible refine Below.drew ?_) | (with_reducible refine below_drewN' ?_ _) | (with_reducible refine below_al ?_) | ((with_reducible refine below_set ?_ ?_); rotate_left; focus (first | (simp; done) | (simp; omega)))))); clear h9; have h9 := h9'; clear h9'
  have k_w6 : w5.heap.size ≤ w6.heap.size := h9.out.size
  have l1_w6 : w.heap.size + 1 < w6.heap.size := by omega
  have l2_w6 : w.heap.size + 1 + 1 < w6.heap.size := by omega
  clear da0 da1 da2 da3 da4 da5 da6 da7 da8
  clear db0 db1 db2 db3 db4 db5 db6 db7 db8
  clear hb6
  have da0 := below_some h9.out _ _ _ Fa0.out
  have da1 := below_some h9.out _ _ _ Fa1.out
  have da2 := below_some h9.out _ _ _ Fa2.out
  have da3 := below_some h9.out _ _ _ Fa3.out
  have da4 := below_some h9.out _ _ _ Fa4.out
  have da5 := below_some h9.out _ _ _ Fa5.out
  have da6 := below_some h9.out _ _ _ Fa6.out
  have da7 := below_some h9.out _ _ _ Fa7.out
  have da8 := below_some h9.out _ _ _ Fa8.out
  have db0 := below_some h9.out _ _ _ Fb0.out
  have db1 := below_some h9.out _ _ _ Fb1.out
  have db2 := below_some h9.out _ _ _ Fb2.out
  have db3 := below_some h9.out _ _ _ Fb3.out
  have db4 := below_some h9.out _ _ _ Fb4.out
  have db5 := below_some h9.out _ _ _ Fb5.out
  have db6 := below_some h9.out _ _ _ Fb6.out
  have db7 := below_some h9.out _ _ _ Fb7.out
  have db8 := below_some h9.out _ _ _ Fb8.out
  (try go_simp); (repeat (first | ((with_reducible refine wp_region_app ?_); simp only [List.cons_append, List.nil_append]) | go_values | go_skip | go_guarded | go_step | go_upon))
  refine (runiY_c a b HMA.out HMB.out HFA.out HFB.out UAB.out p0 p1 p2 p3 p4 p5 p6 hp rs' hrs ds' hds _ (ia5.out.below (by have h9 := h9.out; repeat (first | (with_reducible assumption) | (with_reducible exact Below.refl _ _) | (with_reducible refine Below.drew ?_) | (with_reducible refine below_drewN' ?_ _) | (with_reducible refine below_al ?_) | ((with_reducible refine below_set ?_ ?_); rotate_left; focus (first | (simp; done) | (simp; omega)))))) (ib5.out.below (by have h9 := h9.out; repeat (first | (with_reducible assumption) | (with_reducible exact Below.refl _ _) | (with_reducible refine Below.drew ?_) | (with_reducible refine below_drewN' ?_ _) | (with_reducible refine below_al ?_) | ((with_reducible refine below_set ?_ ?_); rotate_left; focus (first | (simp; done) | (simp; omega))))))).mono ?_; rintro e w7 ⟨yA, yc, yD, yd, rfl, hyr, hyd, hb7⟩
  have h9' := Lib.hid (below_step (w := w5) hb7 (by have h9 := h9.out; repeat (first | (with_reducible assumption) | (with_reducible exact Below.refl _ _) | (with_reducible refine Below.drew ?_) | (with_reducible refine below_drewN' ?_ _) | (with_reducible refine below_al ?_) | ((with_reducible refine below_set ?_ ?_); rotate_left; focus (first | (simp; done) | (simp; omega)))))); clear h9; have h9 := h9'; clear h9'
  have k_w7 : w5.heap.size ≤ w7.heap.size := h9.out.size
  have l1_w7 : w.heap.size + 1 < w7.heap.size := by omega
  have l2_w7 : w.heap.size + 1 + 1 < w7.heap.size := by omega
  clear da0 da1 da2 da3 da4 da5 da6 da7 da8
  clear db0 db1 db2 db3 db4 db5 db6 db7 db8
  have Fx0 : Hid (w7.cell? ⟨w6.heap.size, 0, none⟩ = some (.bool p0)) := Lib.hid (below_some hb7 _ _ _ (cell_nu rfl rfl))
  have Fx1 : Hid (w7.cell? ⟨w6.heap.size, 1, none⟩ = some (.bool p1)) := Lib.hid (below_some hb7 _ _ _ (cell_nu rfl rfl))
  have Fx2 : Hid (w7.cell? ⟨w6.heap.size, 2, none⟩ = some (.bool p2)) := Lib.hid (below_some hb7 _ _ _ (cell_nu rfl rfl))
  have Fx3 : Hid (w7.cell? ⟨w6.heap.size, 3, none⟩ = some (.bool p3)) := Lib.hid (below_some hb7 _ _ _ (cell_nu rfl rfl))
  have Fx4 : Hid (w7.cell? ⟨w6.heap.size, 4, none⟩ = some (.bool p4)) := Lib.hid (below_some hb7 _ _ _ (cell_nu rfl rfl))
  have Fx5 : Hid (w7.cell? ⟨w6.heap.size, 5, none⟩ = some (.bool p5)) := Lib.hid (below_some hb7 _ _ _ (cell_nu rfl rfl))
  have Fx6 : Hid (w7.cell? ⟨w6.heap.size, 6, none⟩ = some (.bool p6)) := Lib.hid (below_some hb7 _ _ _ (cell_nu rfl rfl))
  have Fx7 : Hid (w7.cell? ⟨w6.heap.size, 7, none⟩ = some (.slice xA rs'.length xc)) := Lib.hid (below_some hb7 _ _ _ (cell_nu rfl rfl))
  have Fx8 : Hid (w7.cell? ⟨w6.heap.size, 8, none⟩ = some (.slice xD ds'.length xd)) := Lib.hid (below_some hb7 _ _ _ (cell_nu rfl rfl))
  have b67 : Hid (Below w6.heap.size w6 w7) := Lib.hid (below_step (w := w6) hb7 (below_al (Below.refl _ _))); clear hb7
  have da0 := below_some h9.out _ _ _ Fa0.out
  have da1 := below_some h9.out _ _ _ Fa1.out
  have da2 := below_some h9.out _ _ _ Fa2.out
  have da3 := below_some h9.out _ _ _ Fa3.out
  have da4 := below_some h9.out _ _ _ Fa4.out
  have da5 := below_some h9.out _ _ _ Fa5.out
  have da6 := below_some h9.out _ _ _ Fa6.out
  have da7 := below_some h9.out _ _ _ Fa7.out
  have da8 := below_some h9.out _ _ _ Fa8.out
  (try go_simp); (repeat (first | ((with_reducible refine wp_region_app ?_); simp only [List.cons_append, List.nil_append]) | go_values | go_skip | go_guarded | go_step | go_upon))
  refine (cmany_c a n m hka.out x c hR _ (hL5.out.below (by have h9 := h9.out; repeat (first | (with_reducible assumption) | (with_reducible exact Below.refl _ _) | (with_reducible refine Below.drew ?_) | (with_reducible refine below_drewN' ?_ _) | (with_reducible refine below_al ?_) | ((with_reducible refine below_set ?_ ?_); rotate_left; focus (first | (simp; done) | (simp; omega)))))) (ia5.out.below (by have h9 := h9.out; repeat (first | (with_reducible assumption) | (with_reducible exact Below.refl _ _) | (with_reducible refine Below.drew ?_) | (with_reducible refine below_drewN' ?_ _) | (with_reducible refine below_al ?_) | ((with_reducible refine below_set ?_ ?_); rotate_left; focus (first | (simp; done) | (simp; omega))))))).mono ?_; rintro e w8 ⟨rfl, hb8⟩
  have h9' := Lib.hid (below_step (w := w5) hb8 (by have h9 := h9.out; repeat (first | (with_reducible assumption) | (with_reducible exact Below.refl _ _) | (with_reducible refine Below.drew ?_) | (with_reducible refine below_drewN' ?_ _) | (with_reducible refine below_al ?_) | ((with_reducible refine below_set ?_ ?_); rotate_left; focus (first | (simp; done) | (simp; omega)))))); clear h9; have h9 := h9'; clear h9'
  have k_w8 : w5.heap.size ≤ w8.heap.size := h9.out.size
  have l1_w8 : w.heap.size + 1 < w8.heap.size := by omega
  have l2_w8 : w.heap.size + 1 + 1 < w8.heap.size := by omega
  clear da0 da1 da2 da3 da4 da5 da6 da7 da8
  have Fy0 : Hid (w8.cell? ⟨w7.heap.size, 0, none⟩ = some (.bool p0)) := Lib.hid (below_some hb8 _ _ _ (cell_nu rfl rfl))
  have Fy1 : Hid (w8.cell? ⟨w7.heap.size, 1, none⟩ = some (.bool p1)) := Lib.hid (below_some hb8 _ _ _ (cell_nu rfl rfl))
  have Fy2 : Hid (w8.cell? ⟨w7.heap.size, 2, none⟩ = some (.bool p2)) := Lib.hid (below_some hb8 _ _ _ (cell_nu rfl rfl))
  have Fy3 : Hid (w8.cell? ⟨w7.heap.size, 3, none⟩ = some (.bool p3)) := Lib.hid (below_some hb8 _ _ _ (cell_nu rfl rfl))
  have Fy4 : Hid (w8.cell? ⟨w7.heap.size, 4, none⟩ = some (.bool p4)) := Lib.hid (below_some hb8 _ _ _ (cell_nu rfl rfl))
  have Fy5 : Hid (w8.cell? ⟨w7.heap.size, 5, none⟩ = some (.bool p5)) := Lib.hid (below_some hb8 _ _ _ (cell_nu rfl rfl))
  have Fy6 : Hid (w8.cell? ⟨w7.heap.size, 6, none⟩ = some (.bool p6)) := Lib.hid (below_some hb8 _ _ _ (cell_nu rfl rfl))
  have Fy7 : Hid (w8.cell? ⟨w7.heap.size, 7, none⟩ = some (.slice yA rs'.length yc)) := Lib.hid (below_some hb8 _ _ _ (cell_nu rfl rfl))
  have Fy8 : Hid (w8.cell? ⟨w7.heap.size, 8, none⟩ = some (.slice yD ds'.length yd)) := Lib.hid (below_some hb8 _ _ _ (cell_nu rfl rfl))
  have b78 : Hid (Below w7.heap.size w7 w8) := Lib.hid (below_step (w := w7) hb8 (below_al (Below.refl _ _))); clear hb8
  have da0 := below_some h9.out _ _ _ Fa0.out
  have da1 := below_some h9.out _ _ _ Fa1.out
  have da2 := below_some h9.out _ _ _ Fa2.out
  have da3 := below_some h9.out _ _ _ Fa3.out
  have da4 := below_some h9.out _ _ _ Fa4.out
  have da5 := below_some h9.out _ _ _ Fa5.out
  have da6 := below_some h9.out _ _ _ Fa6.out
  have da7 := below_some h9.out _ _ _ Fa7.out
  have da8 := below_some h9.out _ _ _ Fa8.out
  (try go_simp); (repeat (first | ((with_reducible refine wp_region_app ?_); simp only [List.cons_append, List.nil_append]) | go_values | go_skip | go_guarded | go_step | go_upon))
  refine (rmany_c a n m hka.out x c hR _ (hL5.out.below (by have h9 := h9.out; repeat (first | (with_reducible assumption) | (with_reducible exact Below.refl _ _) | (with_reducible refine Below.drew ?_) | (with_reducible refine below_drewN' ?_ _) | (with_reducible refine below_al ?_) | ((with_reducible refine below_set ?_ ?_); rotate_left; focus (first | (simp; done) | (simp; omega)))))) (ia5.out.below (by have h9 := h9.out; repeat (first | (with_reducible assumption) | (with_reducible exact Below.refl _ _) | (with_reducible refine Below.drew ?_) | (with_reducible refine below_drewN' ?_ _) | (with_reducible refine below_al ?_) | ((with_reducible refine below_set ?_ ?_); rotate_left; focus (first | (simp; done) | (simp; omega))))))).mono ?_; rintro e w9 ⟨rfl, hb9⟩
  have h9' := Lib.hid (below_step (w := w5) hb9 (by have h9 := h9.out; repeat (first | (with_reducible assumption) | (with_reducible exact Below.refl _ _) | (with_reducible refine Below.drew ?_) | (with_reducible refine below_drewN' ?_ _) | (with_reducible refine below_al ?_) | ((with_reducible refine below_set ?_ ?_); rotate_left; focus (first | (simp; done) | (simp; omega)))))); clear h9; have h9 := h9'; clear h9'
  have k_w9 : w5.heap.size ≤ w9.heap.size := h9.out.size
  have l1_w9 : w.heap.size + 1 < w9.heap.size := by omega
  have l2_w9 : w.heap.size + 1 + 1 < w9.heap.size := by omega
  clear da0 da1 da2 da3 da4 da5 da6 da7 da8
  have b79 : Below w7.heap.size w7 w9 := b78.out.trans (hb9.mono b78.out.size)
  have b69 : Below w6.heap.size w6 w9 := b67.out.trans (b79.mono b67.out.size)
  have dx0 := below_some b79 _ _ _ Fx0.out
  have dy0 := below_some hb9 _ _ _ Fy0.out
  have dx1 := below_some b79 _ _ _ Fx1.out
  have dy1 := below_some hb9 _ _ _ Fy1.out
  have dx2 := below_some b79 _ _ _ Fx2.out
  have dy2 := below_some hb9 _ _ _ Fy2.out
  have dx3 := below_some b79 _ _ _ Fx3.out
  have dy3 := below_some hb9 _ _ _ Fy3.out
  have dx4 := below_some b79 _ _ _ Fx4.out
  have dy4 := below_some hb9 _ _ _ Fy4.out
  have dx5 := below_some b79 _ _ _ Fx5.out
  have dy5 := below_some hb9 _ _ _ Fy5.out
  have dx6 := below_some b79 _ _ _ Fx6.out
  have dy6 := below_some hb9 _ _ _ Fy6.out
  have dx7 := below_some b79 _ _ _ Fx7.out
  have dy7 := below_some hb9 _ _ _ Fy7.out
  have dx8 := below_some b79 _ _ _ Fx8.out
  have dy8 := below_some hb9 _ _ _ Fy8.out
  have HXR := Lib.hid (hxr.below b69); have HXD := Lib.hid (hxd.below b69); have HYR := Lib.hid (hyr.below b79); have HYD := Lib.hid (hyd.below b79); clear hxr hxd hyr hyd
  clear b79 b69 hb9
  (try go_simp); (repeat (first | ((with_reducible refine wp_region_app ?_); simp only [List.cons_append, List.nil_append]) | go_values | go_skip | go_guarded | go_step | go_upon))
  refine (same_c p0 p1 p2 p3 p4 p5 p6 xA yA xc yc rs' xD yD xd yd ds' lr ld _ HXR.out HYR.out HXD.out HYD.out).mono ?_; rintro e w10 ⟨rfl, hb10⟩
  have hB10 : Below w.heap.size w w10 := HB5.out.trans ((below_step (w := w5) hb10 (by have h9 := h9.out; repeat (first | (with_reducible assumption) | (with_reducible exact Below.refl _ _) | (with_reducible refine Below.drew ?_) | (with_reducible refine below_drewN' ?_ _) | (with_reducible refine below_al ?_) | ((with_reducible refine below_set ?_ ?_); rotate_left; focus (first | (simp; done) | (simp; omega)))))).mono HB5.out.size)
  (try go_simp); (repeat (first | ((with_reducible refine wp_region_app ?_); simp only [List.cons_append, List.nil_append]) | go_values | go_skip | go_guarded | go_step | go_upon))
  go_ret
  exact ⟨rfl, hB10⟩
set_option maxRecDepth 100000 in
set_option maxHeartbeats 8000000 in
theorem calUnites_g2n (a b : CalP) (n m : Int) (fa : a.few = true) (fb : b.few = true) (ma : a.may = true) (mb : b.may = true) (t1 : decide (n < m) = true) (d : Int) (sd : IntKind.i64.wrap (m - n) = d) (t2 : decide (100 < d) = false) (x c : Int) (hR : Hid (many a n m = (x, c))) (sc : IntKind.i64.wrap c = c) (sx : (x == x) = true) (scc : (c == c) = true) (uab : uopen a b = false)  (w : World) (hL : Laid w) (hN : AllOff w) (ia : CalIn w a) (ib : CalIn w b) : Calls Tryd.prog 10 #[.agg #[.bool a.o0, .bool a.o1, .bool a.o2, .bool a.o3, .bool a.o4, .bool a.o5, .bool a.o6, .slice a.A a.rs.length a.cR, .slice a.D a.ds.length a.cD, .bool b.o0, .bool b.o1, .bool b.o2, .bool b.o3, .bool b.o4, .bool b.o5, .bool b.o6, .slice b.A b.rs.length b.cR, .slice b.D b.ds.length b.cD, .int .i64 n, .int .i64 m]] w fun e w' => e = .returned (.bool true) ∧ Below w.heap.size w w' := by
  have hka := Lib.hid (CalP.ok ma)
  have UAB := Lib.hid uab; clear uab
  have HMA := Lib.hid ma; have HMB := Lib.hid mb; have HFA := Lib.hid fa; have HFB := Lib.hid fb
  have hB : Below w.heap.size w w := Below.refl _ _
  go_enter Tryd.func10, Tryd.ntmps10
  (try go_simp); (repeat (first | ((with_reducible refine wp_region_app ?_); simp only [List.cons_append, List.nil_append]) | go_values | go_skip | go_guarded | go_step | go_upon))
  refine (shown13_c _ (hL.below (by repeat (first | assumption | exact Below.refl _ _ | (with_reducible refine Below.drew ?_) | (with_reducible refine below_drewN' ?_ _) | (with_reducible refine below_al ?_) | ((with_reducible refine below_set ?_ ?_); rotate_left; focus (first | (simp; done) | (simp; omega)))))) (hN.below (by repeat (first | assumption | exact Below.refl _ _ | (with_reducible refine Below.drew ?_) | (with_reducible refine below_drewN' ?_ _) | (with_reducible refine below_al ?_) | ((with_reducible refine below_set ?_ ?_); rotate_left; focus (first | (simp; done) | (simp; omega))))))).mono ?_; rintro e w1 ⟨rfl, hb1⟩
  have hz1 := hb1.size; (try simp at hz1); obtain ⟨hc1, hf1⟩ := bcell hb1; have hB1 := below_step (w := w) hb1 (by repeat (first | assumption | exact Below.refl _ _ | (with_reducible refine Below.drew ?_) | (with_reducible refine below_drewN' ?_ _) | (with_reducible refine below_al ?_) | ((with_reducible refine below_set ?_ ?_); rotate_left; focus (first | (simp; done) | (simp; omega)))))
  have le_w_w1 : w.heap.size ≤ w1.heap.size := by omega
  try have lt_w_w1 : w.heap.size < w1.heap.size := by omega
  have le1_w_w1 : w.heap.size + 1 ≤ w1.heap.size := by omega
  try have lt1_w_w1 : w.heap.size + 1 < w1.heap.size := by omega
  have le2_w_w1 : w.heap.size + 2 ≤ w1.heap.size := by omega
  try have lt2_w_w1 : w.heap.size + 2 < w1.heap.size := by omega
  (try go_simp); (repeat (first | ((with_reducible refine wp_region_app ?_); simp only [List.cons_append, List.nil_append]) | go_values | go_skip | go_guarded | go_step | go_upon))
  refine (few_c a _).mono ?_; rintro e w2 ⟨rfl, hb2⟩
  have hz2 := hb2.size; (try simp at hz2); obtain ⟨hc2, hf2⟩ := bcell hb2; have hB2 := below_step (w := w) hb2 (by repeat (first | assumption | exact Below.refl _ _ | (with_reducible refine Below.drew ?_) | (with_reducible refine below_drewN' ?_ _) | (with_reducible refine below_al ?_) | ((with_reducible refine below_set ?_ ?_); rotate_left; focus (first | (simp; done) | (simp; omega)))))
  have le_w_w2 : w.heap.size ≤ w2.heap.size := by omega
  try have lt_w_w2 : w.heap.size < w2.heap.size := by omega
  have le1_w_w2 : w.heap.size + 1 ≤ w2.heap.size := by omega
  try have lt1_w_w2 : w.heap.size + 1 < w2.heap.size := by omega
  have le2_w_w2 : w.heap.size + 2 ≤ w2.heap.size := by omega
  try have lt2_w_w2 : w.heap.size + 2 < w2.heap.size := by omega
  have le_w1_w2 : w1.heap.size ≤ w2.heap.size := by omega
  try have lt_w1_w2 : w1.heap.size < w2.heap.size := by omega
  (try go_simp); (repeat (first | ((with_reducible refine wp_region_app ?_); simp only [List.cons_append, List.nil_append]) | go_values | go_skip | go_guarded | go_step | go_upon))
  refine (few_c b _).mono ?_; rintro e w3 ⟨rfl, hb3⟩
  have hz3 := hb3.size; (try simp at hz3); obtain ⟨hc3, hf3⟩ := bcell hb3; have hB3 := below_step (w := w) hb3 (by repeat (first | assumption | exact Below.refl _ _ | (with_reducible refine Below.drew ?_) | (with_reducible refine below_drewN' ?_ _) | (with_reducible refine below_al ?_) | ((with_reducible refine below_set ?_ ?_); rotate_left; focus (first | (simp; done) | (simp; omega)))))
  have le_w_w3 : w.heap.size ≤ w3.heap.size := by omega
  try have lt_w_w3 : w.heap.size < w3.heap.size := by omega
  have le1_w_w3 : w.heap.size + 1 ≤ w3.heap.size := by omega
  try have lt1_w_w3 : w.heap.size + 1 < w3.heap.size := by omega
  have le2_w_w3 : w.heap.size + 2 ≤ w3.heap.size := by omega
  try have lt2_w_w3 : w.heap.size + 2 < w3.heap.size := by omega
  have le_w1_w3 : w1.heap.size ≤ w3.heap.size := by omega
  try have lt_w1_w3 : w1.heap.size < w3.heap.size := by omega
  have le_w2_w3 : w2.heap.size ≤ w3.heap.size := by omega
  try have lt_w2_w3 : w2.heap.size < w3.heap.size := by omega
  (try go_simp); (repeat (first | ((with_reducible refine wp_region_app ?_); simp only [List.cons_append, List.nil_append]) | go_values | go_skip | go_guarded | go_step | go_upon))
  refine (rcalMay_c a _ (ia.below (by repeat (first | assumption | exact Below.refl _ _ | (with_reducible refine Below.drew ?_) | (with_reducible refine below_drewN' ?_ _) | (with_reducible refine below_al ?_) | ((with_reducible refine below_set ?_ ?_); rotate_left; focus (first | (simp; done) | (simp; omega))))))).mono ?_; rintro e w4 ⟨rfl, hb4⟩
  have hz4 := hb4.size; (try simp at hz4); obtain ⟨hc4, hf4⟩ := bcell hb4; have hB4 := below_step (w := w) hb4 (by repeat (first | assumption | exact Below.refl _ _ | (with_reducible refine Below.drew ?_) | (with_reducible refine below_drewN' ?_ _) | (with_reducible refine below_al ?_) | ((with_reducible refine below_set ?_ ?_); rotate_left; focus (first | (simp; done) | (simp; omega)))))
  have le_w_w4 : w.heap.size ≤ w4.heap.size := by omega
  try have lt_w_w4 : w.heap.size < w4.heap.size := by omega
  have le1_w_w4 : w.heap.size + 1 ≤ w4.heap.size := by omega
  try have lt1_w_w4 : w.heap.size + 1 < w4.heap.size := by omega
  have le2_w_w4 : w.heap.size + 2 ≤ w4.heap.size := by omega
  try have lt2_w_w4 : w.heap.size + 2 < w4.heap.size := by omega
  have le_w1_w4 : w1.heap.size ≤ w4.heap.size := by omega
  try have lt_w1_w4 : w1.heap.size < w4.heap.size := by omega
  have le_w2_w4 : w2.heap.size ≤ w4.heap.size := by omega
  try have lt_w2_w4 : w2.heap.size < w4.heap.size := by omega
  have le_w3_w4 : w3.heap.size ≤ w4.heap.size := by omega
  try have lt_w3_w4 : w3.heap.size < w4.heap.size := by omega
  (try go_simp); (repeat (first | ((with_reducible refine wp_region_app ?_); simp only [List.cons_append, List.nil_append]) | go_values | go_skip | go_guarded | go_step | go_upon))
  refine (rcalMay_c b _ (ib.below (by repeat (first | assumption | exact Below.refl _ _ | (with_reducible refine Below.drew ?_) | (with_reducible refine below_drewN' ?_ _) | (with_reducible refine below_al ?_) | ((with_reducible refine below_set ?_ ?_); rotate_left; focus (first | (simp; done) | (simp; omega))))))).mono ?_; rintro e w5 ⟨rfl, hb5⟩
  have hz5 := hb5.size; (try simp at hz5); obtain ⟨hc5, hf5⟩ := bcell hb5; have hB5 := below_step (w := w) hb5 (by repeat (first | assumption | exact Below.refl _ _ | (with_reducible refine Below.drew ?_) | (with_reducible refine below_drewN' ?_ _) | (with_reducible refine below_al ?_) | ((with_reducible refine below_set ?_ ?_); rotate_left; focus (first | (simp; done) | (simp; omega)))))
  have le_w_w5 : w.heap.size ≤ w5.heap.size := by omega
  try have lt_w_w5 : w.heap.size < w5.heap.size := by omega
  have le1_w_w5 : w.heap.size + 1 ≤ w5.heap.size := by omega
  try have lt1_w_w5 : w.heap.size + 1 < w5.heap.size := by omega
  have le2_w_w5 : w.heap.size + 2 ≤ w5.heap.size := by omega
  try have lt2_w_w5 : w.heap.size + 2 < w5.heap.size := by omega
  have le_w1_w5 : w1.heap.size ≤ w5.heap.size := by omega
  try have lt_w1_w5 : w1.heap.size < w5.heap.size := by omega
  have le_w2_w5 : w2.heap.size ≤ w5.heap.size := by omega
  try have lt_w2_w5 : w2.heap.size < w5.heap.size := by omega
  have le_w3_w5 : w3.heap.size ≤ w5.heap.size := by omega
  try have lt_w3_w5 : w3.heap.size < w5.heap.size := by omega
  have le_w4_w5 : w4.heap.size ≤ w5.heap.size := by omega
  try have lt_w4_w5 : w4.heap.size < w5.heap.size := by omega
  have Fa0 : Hid (w5.cell? ⟨w.heap.size + 1, 0, none⟩ = some (.bool a.o0)) := Lib.hid (below_some hb5 _ _ _ (below_some hb4 _ _ _ (below_some hb3 _ _ _ (below_some hb2 _ _ _ (below_some hb1 _ _ _ (cell_al (cell_nu (by simp) rfl)))))))
  have Fa1 : Hid (w5.cell? ⟨w.heap.size + 1, 1, none⟩ = some (.bool a.o1)) := Lib.hid (below_some hb5 _ _ _ (below_some hb4 _ _ _ (below_some hb3 _ _ _ (below_some hb2 _ _ _ (below_some hb1 _ _ _ (cell_al (cell_nu (by simp) rfl)))))))
  have Fa2 : Hid (w5.cell? ⟨w.heap.size + 1, 2, none⟩ = some (.bool a.o2)) := Lib.hid (below_some hb5 _ _ _ (below_some hb4 _ _ _ (below_some hb3 _ _ _ (below_some hb2 _ _ _ (below_some hb1 _ _ _ (cell_al (cell_nu (by simp) rfl)))))))
  have Fa3 : Hid (w5.cell? ⟨w.heap.size + 1, 3, none⟩ = some (.bool a.o3)) := Lib.hid (below_some hb5 _ _ _ (below_some hb4 _ _ _ (below_some hb3 _ _ _ (below_some hb2 _ _ _ (below_some hb1 _ _ _ (cell_al (cell_nu (by simp) rfl)))))))
  have Fa4 : Hid (w5.cell? ⟨w.heap.size + 1, 4, none⟩ = some (.bool a.o4)) := Lib.hid (below_some hb5 _ _ _ (below_some hb4 _ _ _ (below_some hb3 _ _ _ (below_some hb2 _ _ _ (below_some hb1 _ _ _ (cell_al (cell_nu (by simp) rfl)))))))
  have Fa5 : Hid (w5.cell? ⟨w.heap.size + 1, 5, none⟩ = some (.bool a.o5)) := Lib.hid (below_some hb5 _ _ _ (below_some hb4 _ _ _ (below_some hb3 _ _ _ (below_some hb2 _ _ _ (below_some hb1 _ _ _ (cell_al (cell_nu (by simp) rfl)))))))
  have Fa6 : Hid (w5.cell? ⟨w.heap.size + 1, 6, none⟩ = some (.bool a.o6)) := Lib.hid (below_some hb5 _ _ _ (below_some hb4 _ _ _ (below_some hb3 _ _ _ (below_some hb2 _ _ _ (below_some hb1 _ _ _ (cell_al (cell_nu (by simp) rfl)))))))
  have Fa7 : Hid (w5.cell? ⟨w.heap.size + 1, 7, none⟩ = some (.slice a.A a.rs.length a.cR)) := Lib.hid (below_some hb5 _ _ _ (below_some hb4 _ _ _ (below_some hb3 _ _ _ (below_some hb2 _ _ _ (below_some hb1 _ _ _ (cell_al (cell_nu (by simp) rfl)))))))
  have Fa8 : Hid (w5.cell? ⟨w.heap.size + 1, 8, none⟩ = some (.slice a.D a.ds.length a.cD)) := Lib.hid (below_some hb5 _ _ _ (below_some hb4 _ _ _ (below_some hb3 _ _ _ (below_some hb2 _ _ _ (below_some hb1 _ _ _ (cell_al (cell_nu (by simp) rfl)))))))
  have Fb0 : Hid (w5.cell? ⟨w.heap.size + 1 + 1, 0, none⟩ = some (.bool b.o0)) := Lib.hid (below_some hb5 _ _ _ (below_some hb4 _ _ _ (below_some hb3 _ _ _ (below_some hb2 _ _ _ (below_some hb1 _ _ _ (cell_nu (by simp) rfl))))))
  have Fb1 : Hid (w5.cell? ⟨w.heap.size + 1 + 1, 1, none⟩ = some (.bool b.o1)) := Lib.hid (below_some hb5 _ _ _ (below_some hb4 _ _ _ (below_some hb3 _ _ _ (below_some hb2 _ _ _ (below_some hb1 _ _ _ (cell_nu (by simp) rfl))))))
  have Fb2 : Hid (w5.cell? ⟨w.heap.size + 1 + 1, 2, none⟩ = some (.bool b.o2)) := Lib.hid (below_some hb5 _ _ _ (below_some hb4 _ _ _ (below_some hb3 _ _ _ (below_some hb2 _ _ _ (below_some hb1 _ _ _ (cell_nu (by simp) rfl))))))
  have Fb3 : Hid (w5.cell? ⟨w.heap.size + 1 + 1, 3, none⟩ = some (.bool b.o3)) := Lib.hid (below_some hb5 _ _ _ (below_some hb4 _ _ _ (below_some hb3 _ _ _ (below_some hb2 _ _ _ (below_some hb1 _ _ _ (cell_nu (by simp) rfl))))))
  have Fb4 : Hid (w5.cell? ⟨w.heap.size + 1 + 1, 4, none⟩ = some (.bool b.o4)) := Lib.hid (below_some hb5 _ _ _ (below_some hb4 _ _ _ (below_some hb3 _ _ _ (below_some hb2 _ _ _ (below_some hb1 _ _ _ (cell_nu (by simp) rfl))))))
  have Fb5 : Hid (w5.cell? ⟨w.heap.size + 1 + 1, 5, none⟩ = some (.bool b.o5)) := Lib.hid (below_some hb5 _ _ _ (below_some hb4 _ _ _ (below_some hb3 _ _ _ (below_some hb2 _ _ _ (below_some hb1 _ _ _ (cell_nu (by simp) rfl))))))
  have Fb6 : Hid (w5.cell? ⟨w.heap.size + 1 + 1, 6, none⟩ = some (.bool b.o6)) := Lib.hid (below_some hb5 _ _ _ (below_some hb4 _ _ _ (below_some hb3 _ _ _ (below_some hb2 _ _ _ (below_some hb1 _ _ _ (cell_nu (by simp) rfl))))))
  have Fb7 : Hid (w5.cell? ⟨w.heap.size + 1 + 1, 7, none⟩ = some (.slice b.A b.rs.length b.cR)) := Lib.hid (below_some hb5 _ _ _ (below_some hb4 _ _ _ (below_some hb3 _ _ _ (below_some hb2 _ _ _ (below_some hb1 _ _ _ (cell_nu (by simp) rfl))))))
  have Fb8 : Hid (w5.cell? ⟨w.heap.size + 1 + 1, 8, none⟩ = some (.slice b.D b.ds.length b.cD)) := Lib.hid (below_some hb5 _ _ _ (below_some hb4 _ _ _ (below_some hb3 _ _ _ (below_some hb2 _ _ _ (below_some hb1 _ _ _ (cell_nu (by simp) rfl))))))
  have hL5 := Lib.hid (hL.below hB5); have hN5 := Lib.hid (hN.below hB5); have ia5 := Lib.hid (ia.below hB5); have ib5 := Lib.hid (ib.below hB5)
  have k5 : w.heap.size + 3 ≤ w5.heap.size := by omega
  have HB5 := Lib.hid hB5
  clear ia ib hL hN hc1 hf1 hB1 hb1 hz1 hc2 hf2 hB2 hb2 hz2 hc3 hf3 hB3 hb3 hz3 hc4 hf4 hB4 hb4 hz4 hc5 hf5 hB5 hb5 hz5
  clear fa fb ma mb
  try clear le_w_w1
  try clear lt_w_w1
  try clear le1_w_w1
  try clear lt1_w_w1
  try clear le2_w_w1
  try clear lt2_w_w1
  try clear le_w_w2
  try clear lt_w_w2
  try clear le1_w_w2
  try clear lt1_w_w2
  try clear le2_w_w2
  try clear lt2_w_w2
  try clear le_w_w3
  try clear lt_w_w3
  try clear le1_w_w3
  try clear lt1_w_w3
  try clear le2_w_w3
  try clear lt2_w_w3
  try clear le_w_w4
  try clear lt_w_w4
  try clear le1_w_w4
  try clear lt1_w_w4
  try clear le2_w_w4
  try clear lt2_w_w4
  try clear le_w_w5
  try clear lt_w_w5
  try clear le1_w_w5
  try clear lt1_w_w5
  try clear le2_w_w5
  try clear lt2_w_w5
  try clear le_w1_w2
  try clear lt_w1_w2
  try clear le1_w1_w2
  try clear lt1_w1_w2
  try clear le2_w1_w2
  try clear lt2_w1_w2
  try clear le_w1_w3
  try clear lt_w1_w3
  try clear le1_w1_w3
  try clear lt1_w1_w3
  try clear le2_w1_w3
  try clear lt2_w1_w3
  try clear le_w1_w4
  try clear lt_w1_w4
  try clear le1_w1_w4
  try clear lt1_w1_w4
  try clear le2_w1_w4
  try clear lt2_w1_w4
  try clear le_w1_w5
  try clear lt_w1_w5
  try clear le1_w1_w5
  try clear lt1_w1_w5
  try clear le2_w1_w5
  try clear lt2_w1_w5
  try clear le_w2_w3
  try clear lt_w2_w3
  try clear le1_w2_w3
  try clear lt1_w2_w3
  try clear le2_w2_w3
  try clear lt2_w2_w3
  try clear le_w2_w4
  try clear lt_w2_w4
  try clear le1_w2_w4
  try clear lt1_w2_w4
  try clear le2_w2_w4
  try clear lt2_w2_w4
  try clear le_w2_w5
  try clear lt_w2_w5
  try clear le1_w2_w5
  try clear lt1_w2_w5
  try clear le2_w2_w5
  try clear lt2_w2_w5
  try clear le_w3_w4
  try clear lt_w3_w4
  try clear le1_w3_w4
  try clear lt1_w3_w4
  try clear le2_w3_w4
  try clear lt2_w3_w4
  try clear le_w3_w5
  try clear lt_w3_w5
  try clear le1_w3_w5
  try clear lt1_w3_w5
  try clear le2_w3_w5
  try clear lt2_w3_w5
  try clear le_w4_w5
  try clear lt_w4_w5
  try clear le1_w4_w5
  try clear lt1_w4_w5
  try clear le2_w4_w5
  try clear lt2_w4_w5
  have h9 : Hid (Below w5.heap.size w5 w5) := Lib.hid (Below.refl _ _)
  have da0 := below_some h9.out _ _ _ Fa0.out
  have da1 := below_some h9.out _ _ _ Fa1.out
  have da2 := below_some h9.out _ _ _ Fa2.out
  have da3 := below_some h9.out _ _ _ Fa3.out
  have da4 := below_some h9.out _ _ _ Fa4.out
  have da5 := below_some h9.out _ _ _ Fa5.out
  have da6 := below_some h9.out _ _ _ Fa6.out
  have da7 := below_some h9.out _ _ _ Fa7.out
  have da8 := below_some h9.out _ _ _ Fa8.out
  have db0 := below_some h9.out _ _ _ Fb0.out
  have db1 := below_some h9.out _ _ _ Fb1.out
  have db2 := below_some h9.out _ _ _ Fb2.out
  have db3 := below_some h9.out _ _ _ Fb3.out
  have db4 := below_some h9.out _ _ _ Fb4.out
  have db5 := below_some h9.out _ _ _ Fb5.out
  have db6 := below_some h9.out _ _ _ Fb6.out
  have db7 := below_some h9.out _ _ _ Fb7.out
  have db8 := below_some h9.out _ _ _ Fb8.out
  (try go_simp); (repeat (first | ((with_reducible refine wp_region_app ?_); simp only [List.cons_append, List.nil_append]) | go_values | go_skip | go_guarded | go_step | go_upon))
  refine (union_not a b HMA.out HMB.out HFA.out HFB.out UAB.out _ (hL5.out.below (by have h9 := h9.out; repeat (first | (with_reducible assumption) | (with_reducible exact Below.refl _ _) | (with_reducible refine Below.drew ?_) | (with_reducible refine below_drewN' ?_ _) | (with_reducible refine below_al ?_) | ((with_reducible refine below_set ?_ ?_); rotate_left; focus (first | (simp; done) | (simp; omega)))))) (hN5.out.below (by have h9 := h9.out; repeat (first | (with_reducible assumption) | (with_reducible exact Below.refl _ _) | (with_reducible refine Below.drew ?_) | (with_reducible refine below_drewN' ?_ _) | (with_reducible refine below_al ?_) | ((with_reducible refine below_set ?_ ?_); rotate_left; focus (first | (simp; done) | (simp; omega)))))) (ia5.out.below (by have h9 := h9.out; repeat (first | (with_reducible assumption) | (with_reducible exact Below.refl _ _) | (with_reducible refine Below.drew ?_) | (with_reducible refine below_drewN' ?_ _) | (with_reducible refine below_al ?_) | ((with_reducible refine below_set ?_ ?_); rotate_left; focus (first | (simp; done) | (simp; omega)))))) (ib5.out.below (by have h9 := h9.out; repeat (first | (with_reducible assumption) | (with_reducible exact Below.refl _ _) | (with_reducible refine Below.drew ?_) | (with_reducible refine below_drewN' ?_ _) | (with_reducible refine below_al ?_) | ((with_reducible refine below_set ?_ ?_); rotate_left; focus (first | (simp; done) | (simp; omega))))))).mono ?_; rintro e w6 ⟨hb6, rfl⟩
  have h9' := Lib.hid (below_step (w := w5) hb6 (by have h9 := h9.out; repeat (first | (with_reducible assumption) | (with_reducible exact Below.refl _ _) | (with_reducible refine Below.drew ?_) | (with_reducible refine below_drewN' ?_ _) | (with_reducible refine below_al ?_) | ((with_reducible refine below_set ?_ ?_); rotate_left; focus (first | (simp; done) | (simp; omega)))))); clear h9; have h9 := h9'; clear h9'
  have k_w6 : w5.heap.size ≤ w6.heap.size := h9.out.size
  have l1_w6 : w.heap.size + 1 < w6.heap.size := by omega
  have l2_w6 : w.heap.size + 1 + 1 < w6.heap.size := by omega
  clear da0 da1 da2 da3 da4 da5 da6 da7 da8
  clear db0 db1 db2 db3 db4 db5 db6 db7 db8
  clear hb6
  have da0 := below_some h9.out _ _ _ Fa0.out
  have da1 := below_some h9.out _ _ _ Fa1.out
  have da2 := below_some h9.out _ _ _ Fa2.out
  have da3 := below_some h9.out _ _ _ Fa3.out
  have da4 := below_some h9.out _ _ _ Fa4.out
  have da5 := below_some h9.out _ _ _ Fa5.out
  have da6 := below_some h9.out _ _ _ Fa6.out
  have da7 := below_some h9.out _ _ _ Fa7.out
  have da8 := below_some h9.out _ _ _ Fa8.out
  have db0 := below_some h9.out _ _ _ Fb0.out
  have db1 := below_some h9.out _ _ _ Fb1.out
  have db2 := below_some h9.out _ _ _ Fb2.out
  have db3 := below_some h9.out _ _ _ Fb3.out
  have db4 := below_some h9.out _ _ _ Fb4.out
  have db5 := below_some h9.out _ _ _ Fb5.out
  have db6 := below_some h9.out _ _ _ Fb6.out
  have db7 := below_some h9.out _ _ _ Fb7.out
  have db8 := below_some h9.out _ _ _ Fb8.out
  (try go_simp); (repeat (first | ((with_reducible refine wp_region_app ?_); simp only [List.cons_append, List.nil_append]) | go_values | go_skip | go_guarded | go_step | go_upon))
  refine (runiN_c a b HMA.out HMB.out HFA.out HFB.out UAB.out _ (ia5.out.below (by have h9 := h9.out; repeat (first | (with_reducible assumption) | (with_reducible exact Below.refl _ _) | (with_reducible refine Below.drew ?_) | (with_reducible refine below_drewN' ?_ _) | (with_reducible refine below_al ?_) | ((with_reducible refine below_set ?_ ?_); rotate_left; focus (first | (simp; done) | (simp; omega)))))) (ib5.out.below (by have h9 := h9.out; repeat (first | (with_reducible assumption) | (with_reducible exact Below.refl _ _) | (with_reducible refine Below.drew ?_) | (with_reducible refine below_drewN' ?_ _) | (with_reducible refine below_al ?_) | ((with_reducible refine below_set ?_ ?_); rotate_left; focus (first | (simp; done) | (simp; omega))))))).mono ?_; rintro e w7 ⟨hb7, rfl⟩
  have h9' := Lib.hid (below_step (w := w5) hb7 (by have h9 := h9.out; repeat (first | (with_reducible assumption) | (with_reducible exact Below.refl _ _) | (with_reducible refine Below.drew ?_) | (with_reducible refine below_drewN' ?_ _) | (with_reducible refine below_al ?_) | ((with_reducible refine below_set ?_ ?_); rotate_left; focus (first | (simp; done) | (simp; omega)))))); clear h9; have h9 := h9'; clear h9'
  have k_w7 : w5.heap.size ≤ w7.heap.size := h9.out.size
  have l1_w7 : w.heap.size + 1 < w7.heap.size := by omega
  have l2_w7 : w.heap.size + 1 + 1 < w7.heap.size := by omega
  clear da0 da1 da2 da3 da4 da5 da6 da7 da8
  clear db0 db1 db2 db3 db4 db5 db6 db7 db8
  have Fx0 : Hid (w7.cell? ⟨w6.heap.size, 0, none⟩ = some (.bool false)) := Lib.hid (below_some hb7 _ _ _ (cell_nu rfl rfl))
  have Fx1 : Hid (w7.cell? ⟨w6.heap.size, 1, none⟩ = some (.bool false)) := Lib.hid (below_some hb7 _ _ _ (cell_nu rfl rfl))
  have Fx2 : Hid (w7.cell? ⟨w6.heap.size, 2, none⟩ = some (.bool false)) := Lib.hid (below_some hb7 _ _ _ (cell_nu rfl rfl))
  have Fx3 : Hid (w7.cell? ⟨w6.heap.size, 3, none⟩ = some (.bool false)) := Lib.hid (below_some hb7 _ _ _ (cell_nu rfl rfl))
  have Fx4 : Hid (w7.cell? ⟨w6.heap.size, 4, none⟩ = some (.bool false)) := Lib.hid (below_some hb7 _ _ _ (cell_nu rfl rfl))
  have Fx5 : Hid (w7.cell? ⟨w6.heap.size, 5, none⟩ = some (.bool false)) := Lib.hid (below_some hb7 _ _ _ (cell_nu rfl rfl))
  have Fx6 : Hid (w7.cell? ⟨w6.heap.size, 6, none⟩ = some (.bool false)) := Lib.hid (below_some hb7 _ _ _ (cell_nu rfl rfl))
  have Fx7 : Hid (w7.cell? ⟨w6.heap.size, 7, none⟩ = some (.slice none 0 0)) := Lib.hid (below_some hb7 _ _ _ (cell_nu rfl rfl))
  have Fx8 : Hid (w7.cell? ⟨w6.heap.size, 8, none⟩ = some (.slice none 0 0)) := Lib.hid (below_some hb7 _ _ _ (cell_nu rfl rfl))
  have b67 : Hid (Below w6.heap.size w6 w7) := Lib.hid (below_step (w := w6) hb7 (below_al (Below.refl _ _))); clear hb7
  have da0 := below_some h9.out _ _ _ Fa0.out
  have da1 := below_some h9.out _ _ _ Fa1.out
  have da2 := below_some h9.out _ _ _ Fa2.out
  have da3 := below_some h9.out _ _ _ Fa3.out
  have da4 := below_some h9.out _ _ _ Fa4.out
  have da5 := below_some h9.out _ _ _ Fa5.out
  have da6 := below_some h9.out _ _ _ Fa6.out
  have da7 := below_some h9.out _ _ _ Fa7.out
  have da8 := below_some h9.out _ _ _ Fa8.out
  (try go_simp); (repeat (first | ((with_reducible refine wp_region_app ?_); simp only [List.cons_append, List.nil_append]) | go_values | go_skip | go_guarded | go_step | go_upon))
  refine (cmany_c a n m hka.out x c hR _ (hL5.out.below (by have h9 := h9.out; repeat (first | (with_reducible assumption) | (with_reducible exact Below.refl _ _) | (with_reducible refine Below.drew ?_) | (with_reducible refine below_drewN' ?_ _) | (with_reducible refine below_al ?_) | ((with_reducible refine below_set ?_ ?_); rotate_left; focus (first | (simp; done) | (simp; omega)))))) (ia5.out.below (by have h9 := h9.out; repeat (first | (with_reducible assumption) | (with_reducible exact Below.refl _ _) | (with_reducible refine Below.drew ?_) | (with_reducible refine below_drewN' ?_ _) | (with_reducible refine below_al ?_) | ((with_reducible refine below_set ?_ ?_); rotate_left; focus (first | (simp; done) | (simp; omega))))))).mono ?_; rintro e w8 ⟨rfl, hb8⟩
  have h9' := Lib.hid (below_step (w := w5) hb8 (by have h9 := h9.out; repeat (first | (with_reducible assumption) | (with_reducible exact Below.refl _ _) | (with_reducible refine Below.drew ?_) | (with_reducible refine below_drewN' ?_ _) | (with_reducible refine below_al ?_) | ((with_reducible refine below_set ?_ ?_); rotate_left; focus (first | (simp; done) | (simp; omega)))))); clear h9; have h9 := h9'; clear h9'
  have k_w8 : w5.heap.size ≤ w8.heap.size := h9.out.size
  have l1_w8 : w.heap.size + 1 < w8.heap.size := by omega
  have l2_w8 : w.heap.size + 1 + 1 < w8.heap.size := by omega
  clear da0 da1 da2 da3 da4 da5 da6 da7 da8
  have Fy0 : Hid (w8.cell? ⟨w7.heap.size, 0, none⟩ = some (.bool false)) := Lib.hid (below_some hb8 _ _ _ (cell_nu rfl rfl))
  have Fy1 : Hid (w8.cell? ⟨w7.heap.size, 1, none⟩ = some (.bool false)) := Lib.hid (below_some hb8 _ _ _ (cell_nu rfl rfl))
  have Fy2 : Hid (w8.cell? ⟨w7.heap.size, 2, none⟩ = some (.bool false)) := Lib.hid (below_some hb8 _ _ _ (cell_nu rfl rfl))
  have Fy3 : Hid (w8.cell? ⟨w7.heap.size, 3, none⟩ = some (.bool false)) := Lib.hid (below_some hb8 _ _ _ (cell_nu rfl rfl))
  have Fy4 : Hid (w8.cell? ⟨w7.heap.size, 4, none⟩ = some (.bool false)) := Lib.hid (below_some hb8 _ _ _ (cell_nu rfl rfl))
  have Fy5 : Hid (w8.cell? ⟨w7.heap.size, 5, none⟩ = some (.bool false)) := Lib.hid (below_some hb8 _ _ _ (cell_nu rfl rfl))
  have Fy6 : Hid (w8.cell? ⟨w7.heap.size, 6, none⟩ = some (.bool false)) := Lib.hid (below_some hb8 _ _ _ (cell_nu rfl rfl))
  have Fy7 : Hid (w8.cell? ⟨w7.heap.size, 7, none⟩ = some (.slice none 0 0)) := Lib.hid (below_some hb8 _ _ _ (cell_nu rfl rfl))
  have Fy8 : Hid (w8.cell? ⟨w7.heap.size, 8, none⟩ = some (.slice none 0 0)) := Lib.hid (below_some hb8 _ _ _ (cell_nu rfl rfl))
  have b78 : Hid (Below w7.heap.size w7 w8) := Lib.hid (below_step (w := w7) hb8 (below_al (Below.refl _ _))); clear hb8
  have da0 := below_some h9.out _ _ _ Fa0.out
  have da1 := below_some h9.out _ _ _ Fa1.out
  have da2 := below_some h9.out _ _ _ Fa2.out
  have da3 := below_some h9.out _ _ _ Fa3.out
  have da4 := below_some h9.out _ _ _ Fa4.out
  have da5 := below_some h9.out _ _ _ Fa5.out
  have da6 := below_some h9.out _ _ _ Fa6.out
  have da7 := below_some h9.out _ _ _ Fa7.out
  have da8 := below_some h9.out _ _ _ Fa8.out
  (try go_simp); (repeat (first | ((with_reducible refine wp_region_app ?_); simp only [List.cons_append, List.nil_append]) | go_values | go_skip | go_guarded | go_step | go_upon))
  refine (rmany_c a n m hka.out x c hR _ (hL5.out.below (by have h9 := h9.out; repeat (first | (with_reducible assumption) | (with_reducible exact Below.refl _ _) | (with_reducible refine Below.drew ?_) | (with_reducible refine below_drewN' ?_ _) | (with_reducible refine below_al ?_) | ((with_reducible refine below_set ?_ ?_); rotate_left; focus (first | (simp; done) | (simp; omega)))))) (ia5.out.below (by have h9 := h9.out; repeat (first | (with_reducible assumption) | (with_reducible exact Below.refl _ _) | (with_reducible refine Below.drew ?_) | (with_reducible refine below_drewN' ?_ _) | (with_reducible refine below_al ?_) | ((with_reducible refine below_set ?_ ?_); rotate_left; focus (first | (simp; done) | (simp; omega))))))).mono ?_; rintro e w9 ⟨rfl, hb9⟩
  have h9' := Lib.hid (below_step (w := w5) hb9 (by have h9 := h9.out; repeat (first | (with_reducible assumption) | (with_reducible exact Below.refl _ _) | (with_reducible refine Below.drew ?_) | (with_reducible refine below_drewN' ?_ _) | (with_reducible refine below_al ?_) | ((with_reducible refine below_set ?_ ?_); rotate_left; focus (first | (simp; done) | (simp; omega)))))); clear h9; have h9 := h9'; clear h9'
  have k_w9 : w5.heap.size ≤ w9.heap.size := h9.out.size
  have l1_w9 : w.heap.size + 1 < w9.heap.size := by omega
  have l2_w9 : w.heap.size + 1 + 1 < w9.heap.size := by omega
  clear da0 da1 da2 da3 da4 da5 da6 da7 da8
  have b79 : Below w7.heap.size w7 w9 := b78.out.trans (hb9.mono b78.out.size)
  have b69 : Below w6.heap.size w6 w9 := b67.out.trans (b79.mono b67.out.size)
  have dx0 := below_some b79 _ _ _ Fx0.out
  have dy0 := below_some hb9 _ _ _ Fy0.out
  have dx1 := below_some b79 _ _ _ Fx1.out
  have dy1 := below_some hb9 _ _ _ Fy1.out
  have dx2 := below_some b79 _ _ _ Fx2.out
  have dy2 := below_some hb9 _ _ _ Fy2.out
  have dx3 := below_some b79 _ _ _ Fx3.out
  have dy3 := below_some hb9 _ _ _ Fy3.out
  have dx4 := below_some b79 _ _ _ Fx4.out
  have dy4 := below_some hb9 _ _ _ Fy4.out
  have dx5 := below_some b79 _ _ _ Fx5.out
  have dy5 := below_some hb9 _ _ _ Fy5.out
  have dx6 := below_some b79 _ _ _ Fx6.out
  have dy6 := below_some hb9 _ _ _ Fy6.out
  have dx7 := below_some b79 _ _ _ Fx7.out
  have dy7 := below_some hb9 _ _ _ Fy7.out
  have dx8 := below_some b79 _ _ _ Fx8.out
  have dy8 := below_some hb9 _ _ _ Fy8.out
  clear b79 b69 hb9
  (try go_simp); (repeat (first | ((with_reducible refine wp_region_app ?_); simp only [List.cons_append, List.nil_append]) | go_values | go_skip | go_guarded | go_step | go_upon))
  refine (sameN_c _).mono ?_; rintro e w10 ⟨rfl, hb10⟩
  have hB10 : Below w.heap.size w w10 := HB5.out.trans ((below_step (w := w5) hb10 (by have h9 := h9.out; repeat (first | (with_reducible assumption) | (with_reducible exact Below.refl _ _) | (with_reducible refine Below.drew ?_) | (with_reducible refine below_drewN' ?_ _) | (with_reducible refine below_al ?_) | ((with_reducible refine below_set ?_ ?_); rotate_left; focus (first | (simp; done) | (simp; omega)))))).mono HB5.out.size)
  (try go_simp); (repeat (first | ((with_reducible refine wp_region_app ?_); simp only [List.cons_append, List.nil_append]) | go_values | go_skip | go_guarded | go_step | go_upon))
  go_ret
  exact ⟨rfl, hB10⟩
set_option maxRecDepth 100000 in
set_option maxHeartbeats 8000000 in
theorem calUnites_g3y (a b : CalP) (n m : Int) (fa : a.few = true) (fb : b.few = true) (ma : a.may = true) (mb : b.may = true) (t1 : decide (n < m) = true) (d : Int) (sd : IntKind.i64.wrap (m - n) = d) (t2 : decide (100 < d) = true) (t3 : decide (d ≤ 4000) = false) (x c : Int) (hR : Hid (many a n m = (x, c))) (sc : IntKind.i64.wrap c = c) (sx : (x == x) = true) (scc : (c == c) = true) (uab : uopen a b = true) (p0 p1 p2 p3 p4 p5 p6 : Bool) (hp : Hid ((a.o0 || b.o0) = p0 ∧ (a.o1 || b.o1) = p1 ∧ (a.o2 || b.o2) = p2 ∧ (a.o3 || b.o3) = p3 ∧ (a.o4 || b.o4) = p4 ∧ (a.o5 || b.o5) = p5 ∧ (a.o6 || b.o6) = p6)) (rs' : List R8) (hrs : Hid (a.rs ++ b.rs = rs')) (ds' : List Int) (hds : Hid (uds a.ds b.ds = ds')) (lr : rs'.length ≤ 1000000) (ld : ds'.length ≤ 1000000)  (w : World) (hL : Laid w) (hN : AllOff w) (ia : CalIn w a) (ib : CalIn w b) : Calls Tryd.prog 10 #[.agg #[.bool a.o0, .bool a.o1, .bool a.o2, .bool a.o3, .bool a.o4, .bool a.o5, .bool a.o6, .slice a.A a.rs.length a.cR, .slice a.D a.ds.length a.cD, .bool b.o0, .bool b.o1, .bool b.o2, .bool b.o3, .bool b.o4, .bool b.o5, .bool b.o6, .slice b.A b.rs.length b.cR, .slice b.D b.ds.length b.cD, .int .i64 n, .int .i64 m]] w fun e w' => e = .returned (.bool true) ∧ Below w.heap.size w w' := by
  have hka := Lib.hid (CalP.ok ma)
  have UAB := Lib.hid uab; clear uab
  have HMA := Lib.hid ma; have HMB := Lib.hid mb; have HFA := Lib.hid fa; have HFB := Lib.hid fb
  have hB : Below w.heap.size w w := Below.refl _ _
  go_enter Tryd.func10, Tryd.ntmps10
  (try go_simp); (repeat (first | ((with_reducible refine wp_region_app ?_); simp only [List.cons_append, List.nil_append]) | go_values | go_skip | go_guarded | go_step | go_upon))
  refine (shown13_c _ (hL.below (by repeat (first | assumption | exact Below.refl _ _ | (with_reducible refine Below.drew ?_) | (with_reducible refine below_drewN' ?_ _) | (with_reducible refine below_al ?_) | ((with_reducible refine below_set ?_ ?_); rotate_left; focus (first | (simp; done) | (simp; omega)))))) (hN.below (by repeat (first | assumption | exact Below.refl _ _ | (with_reducible refine Below.drew ?_) | (with_reducible refine below_drewN' ?_ _) | (with_reducible refine below_al ?_) | ((with_reducible refine below_set ?_ ?_); rotate_left; focus (first | (simp; done) | (simp; omega))))))).mono ?_; rintro e w1 ⟨rfl, hb1⟩
  have hz1 := hb1.size; (try simp at hz1); obtain ⟨hc1, hf1⟩ := bcell hb1; have hB1 := below_step (w := w) hb1 (by repeat (first | assumption | exact Below.refl _ _ | (with_reducible refine Below.drew ?_) | (with_reducible refine below_drewN' ?_ _) | (with_reducible refine below_al ?_) | ((with_reducible refine below_set ?_ ?_); rotate_left; focus (first | (simp; done) | (simp; omega)))))
  have le_w_w1 : w.heap.size ≤ w1.heap.size := by omega
  try have lt_w_w1 : w.heap.size < w1.heap.size := by omega
  have le1_w_w1 : w.heap.size + 1 ≤ w1.heap.size := by omega
  try have lt1_w_w1 : w.heap.size + 1 < w1.heap.size := by omega
  have le2_w_w1 : w.heap.size + 2 ≤ w1.heap.size := by omega
  try have lt2_w_w1 : w.heap.size + 2 < w1.heap.size := by omega
  (try go_simp); (repeat (first | ((with_reducible refine wp_region_app ?_); simp only [List.cons_append, List.nil_append]) | go_values | go_skip | go_guarded | go_step | go_upon))
  refine (few_c a _).mono ?_; rintro e w2 ⟨rfl, hb2⟩
  have hz2 := hb2.size; (try simp at hz2); obtain ⟨hc2, hf2⟩ := bcell hb2; have hB2 := below_step (w := w) hb2 (by repeat (first | assumption | exact Below.refl _ _ | (with_reducible refine Below.drew ?_) | (with_reducible refine below_drewN' ?_ _) | (with_reducible refine below_al ?_) | ((with_reducible refine below_set ?_ ?_); rotate_left; focus (first | (simp; done) | (simp; omega)))))
  have le_w_w2 : w.heap.size ≤ w2.heap.size := by omega
  try have lt_w_w2 : w.heap.size < w2.heap.size := by omega
  have le1_w_w2 : w.heap.size + 1 ≤ w2.heap.size := by omega
  try have lt1_w_w2 : w.heap.size + 1 < w2.heap.size := by omega
  have le2_w_w2 : w.heap.size + 2 ≤ w2.heap.size := by omega
  try have lt2_w_w2 : w.heap.size + 2 < w2.heap.size := by omega
  have le_w1_w2 : w1.heap.size ≤ w2.heap.size := by omega
  try have lt_w1_w2 : w1.heap.size < w2.heap.size := by omega
  (try go_simp); (repeat (first | ((with_reducible refine wp_region_app ?_); simp only [List.cons_append, List.nil_append]) | go_values | go_skip | go_guarded | go_step | go_upon))
  refine (few_c b _).mono ?_; rintro e w3 ⟨rfl, hb3⟩
  have hz3 := hb3.size; (try simp at hz3); obtain ⟨hc3, hf3⟩ := bcell hb3; have hB3 := below_step (w := w) hb3 (by repeat (first | assumption | exact Below.refl _ _ | (with_reducible refine Below.drew ?_) | (with_reducible refine below_drewN' ?_ _) | (with_reducible refine below_al ?_) | ((with_reducible refine below_set ?_ ?_); rotate_left; focus (first | (simp; done) | (simp; omega)))))
  have le_w_w3 : w.heap.size ≤ w3.heap.size := by omega
  try have lt_w_w3 : w.heap.size < w3.heap.size := by omega
  have le1_w_w3 : w.heap.size + 1 ≤ w3.heap.size := by omega
  try have lt1_w_w3 : w.heap.size + 1 < w3.heap.size := by omega
  have le2_w_w3 : w.heap.size + 2 ≤ w3.heap.size := by omega
  try have lt2_w_w3 : w.heap.size + 2 < w3.heap.size := by omega
  have le_w1_w3 : w1.heap.size ≤ w3.heap.size := by omega
  try have lt_w1_w3 : w1.heap.size < w3.heap.size := by omega
  have le_w2_w3 : w2.heap.size ≤ w3.heap.size := by omega
  try have lt_w2_w3 : w2.heap.size < w3.heap.size := by omega
  (try go_simp); (repeat (first | ((with_reducible refine wp_region_app ?_); simp only [List.cons_append, List.nil_append]) | go_values | go_skip | go_guarded | go_step | go_upon))
  refine (rcalMay_c a _ (ia.below (by repeat (first | assumption | exact Below.refl _ _ | (with_reducible refine Below.drew ?_) | (with_reducible refine below_drewN' ?_ _) | (with_reducible refine below_al ?_) | ((with_reducible refine below_set ?_ ?_); rotate_left; focus (first | (simp; done) | (simp; omega))))))).mono ?_; rintro e w4 ⟨rfl, hb4⟩
  have hz4 := hb4.size; (try simp at hz4); obtain ⟨hc4, hf4⟩ := bcell hb4; have hB4 := below_step (w := w) hb4 (by repeat (first | assumption | exact Below.refl _ _ | (with_reducible refine Below.drew ?_) | (with_reducible refine below_drewN' ?_ _) | (with_reducible refine below_al ?_) | ((with_reducible refine below_set ?_ ?_); rotate_left; focus (first | (simp; done) | (simp; omega)))))
  have le_w_w4 : w.heap.size ≤ w4.heap.size := by omega
  try have lt_w_w4 : w.heap.size < w4.heap.size := by omega
  have le1_w_w4 : w.heap.size + 1 ≤ w4.heap.size := by omega
  try have lt1_w_w4 : w.heap.size + 1 < w4.heap.size := by omega
  have le2_w_w4 : w.heap.size + 2 ≤ w4.heap.size := by omega
  try have lt2_w_w4 : w.heap.size + 2 < w4.heap.size := by omega
  have le_w1_w4 : w1.heap.size ≤ w4.heap.size := by omega
  try have lt_w1_w4 : w1.heap.size < w4.heap.size := by omega
  have le_w2_w4 : w2.heap.size ≤ w4.heap.size := by omega
  try have lt_w2_w4 : w2.heap.size < w4.heap.size := by omega
  have le_w3_w4 : w3.heap.size ≤ w4.heap.size := by omega
  try have lt_w3_w4 : w3.heap.size < w4.heap.size := by omega
  (try go_simp); (repeat (first | ((with_reducible refine wp_region_app ?_); simp only [List.cons_append, List.nil_append]) | go_values | go_skip | go_guarded | go_step | go_upon))
  refine (rcalMay_c b _ (ib.below (by repeat (first | assumption | exact Below.refl _ _ | (with_reducible refine Below.drew ?_) | (with_reducible refine below_drewN' ?_ _) | (with_reducible refine below_al ?_) | ((with_reducible refine below_set ?_ ?_); rotate_left; focus (first | (simp; done) | (simp; omega))))))).mono ?_; rintro e w5 ⟨rfl, hb5⟩
  have hz5 := hb5.size; (try simp at hz5); obtain ⟨hc5, hf5⟩ := bcell hb5; have hB5 := below_step (w := w) hb5 (by repeat (first | assumption | exact Below.refl _ _ | (with_reducible refine Below.drew ?_) | (with_reducible refine below_drewN' ?_ _) | (with_reducible refine below_al ?_) | ((with_reducible refine below_set ?_ ?_); rotate_left; focus (first | (simp; done) | (simp; omega)))))
  have le_w_w5 : w.heap.size ≤ w5.heap.size := by omega
  try have lt_w_w5 : w.heap.size < w5.heap.size := by omega
  have le1_w_w5 : w.heap.size + 1 ≤ w5.heap.size := by omega
  try have lt1_w_w5 : w.heap.size + 1 < w5.heap.size := by omega
  have le2_w_w5 : w.heap.size + 2 ≤ w5.heap.size := by omega
  try have lt2_w_w5 : w.heap.size + 2 < w5.heap.size := by omega
  have le_w1_w5 : w1.heap.size ≤ w5.heap.size := by omega
  try have lt_w1_w5 : w1.heap.size < w5.heap.size := by omega
  have le_w2_w5 : w2.heap.size ≤ w5.heap.size := by omega
  try have lt_w2_w5 : w2.heap.size < w5.heap.size := by omega
  have le_w3_w5 : w3.heap.size ≤ w5.heap.size := by omega
  try have lt_w3_w5 : w3.heap.size < w5.heap.size := by omega
  have le_w4_w5 : w4.heap.size ≤ w5.heap.size := by omega
  try have lt_w4_w5 : w4.heap.size < w5.heap.size := by omega
  have Fa0 : Hid (w5.cell? ⟨w.heap.size + 1, 0, none⟩ = some (.bool a.o0)) := Lib.hid (below_some hb5 _ _ _ (below_some hb4 _ _ _ (below_some hb3 _ _ _ (below_some hb2 _ _ _ (below_some hb1 _ _ _ (cell_al (cell_nu (by simp) rfl)))))))
  have Fa1 : Hid (w5.cell? ⟨w.heap.size + 1, 1, none⟩ = some (.bool a.o1)) := Lib.hid (below_some hb5 _ _ _ (below_some hb4 _ _ _ (below_some hb3 _ _ _ (below_some hb2 _ _ _ (below_some hb1 _ _ _ (cell_al (cell_nu (by simp) rfl)))))))
  have Fa2 : Hid (w5.cell? ⟨w.heap.size + 1, 2, none⟩ = some (.bool a.o2)) := Lib.hid (below_some hb5 _ _ _ (below_some hb4 _ _ _ (below_some hb3 _ _ _ (below_some hb2 _ _ _ (below_some hb1 _ _ _ (cell_al (cell_nu (by simp) rfl)))))))
  have Fa3 : Hid (w5.cell? ⟨w.heap.size + 1, 3, none⟩ = some (.bool a.o3)) := Lib.hid (below_some hb5 _ _ _ (below_some hb4 _ _ _ (below_some hb3 _ _ _ (below_some hb2 _ _ _ (below_some hb1 _ _ _ (cell_al (cell_nu (by simp) rfl)))))))
  have Fa4 : Hid (w5.cell? ⟨w.heap.size + 1, 4, none⟩ = some (.bool a.o4)) := Lib.hid (below_some hb5 _ _ _ (below_some hb4 _ _ _ (below_some hb3 _ _ _ (below_some hb2 _ _ _ (below_some hb1 _ _ _ (cell_al (cell_nu (by simp) rfl)))))))
  have Fa5 : Hid (w5.cell? ⟨w.heap.size + 1, 5, none⟩ = some (.bool a.o5)) := Lib.hid (below_some hb5 _ _ _ (below_some hb4 _ _ _ (below_some hb3 _ _ _ (below_some hb2 _ _ _ (below_some hb1 _ _ _ (cell_al (cell_nu (by simp) rfl)))))))
  have Fa6 : Hid (w5.cell? ⟨w.heap.size + 1, 6, none⟩ = some (.bool a.o6)) := Lib.hid (below_some hb5 _ _ _ (below_some hb4 _ _ _ (below_some hb3 _ _ _ (below_some hb2 _ _ _ (below_some hb1 _ _ _ (cell_al (cell_nu (by simp) rfl)))))))
  have Fa7 : Hid (w5.cell? ⟨w.heap.size + 1, 7, none⟩ = some (.slice a.A a.rs.length a.cR)) := Lib.hid (below_some hb5 _ _ _ (below_some hb4 _ _ _ (below_some hb3 _ _ _ (below_some hb2 _ _ _ (below_some hb1 _ _ _ (cell_al (cell_nu (by simp) rfl)))))))
  have Fa8 : Hid (w5.cell? ⟨w.heap.size + 1, 8, none⟩ = some (.slice a.D a.ds.length a.cD)) := Lib.hid (below_some hb5 _ _ _ (below_some hb4 _ _ _ (below_some hb3 _ _ _ (below_some hb2 _ _ _ (below_some hb1 _ _ _ (cell_al (cell_nu (by simp) rfl)))))))
  have Fb0 : Hid (w5.cell? ⟨w.heap.size + 1 + 1, 0, none⟩ = some (.bool b.o0)) := Lib.hid (below_some hb5 _ _ _ (below_some hb4 _ _ _ (below_some hb3 _ _ _ (below_some hb2 _ _ _ (below_some hb1 _ _ _ (cell_nu (by simp) rfl))))))
  have Fb1 : Hid (w5.cell? ⟨w.heap.size + 1 + 1, 1, none⟩ = some (.bool b.o1)) := Lib.hid (below_some hb5 _ _ _ (below_some hb4 _ _ _ (below_some hb3 _ _ _ (below_some hb2 _ _ _ (below_some hb1 _ _ _ (cell_nu (by simp) rfl))))))
  have Fb2 : Hid (w5.cell? ⟨w.heap.size + 1 + 1, 2, none⟩ = some (.bool b.o2)) := Lib.hid (below_some hb5 _ _ _ (below_some hb4 _ _ _ (below_some hb3 _ _ _ (below_some hb2 _ _ _ (below_some hb1 _ _ _ (cell_nu (by simp) rfl))))))
  have Fb3 : Hid (w5.cell? ⟨w.heap.size + 1 + 1, 3, none⟩ = some (.bool b.o3)) := Lib.hid (below_some hb5 _ _ _ (below_some hb4 _ _ _ (below_some hb3 _ _ _ (below_some hb2 _ _ _ (below_some hb1 _ _ _ (cell_nu (by simp) rfl))))))
  have Fb4 : Hid (w5.cell? ⟨w.heap.size + 1 + 1, 4, none⟩ = some (.bool b.o4)) := Lib.hid (below_some hb5 _ _ _ (below_some hb4 _ _ _ (below_some hb3 _ _ _ (below_some hb2 _ _ _ (below_some hb1 _ _ _ (cell_nu (by simp) rfl))))))
  have Fb5 : Hid (w5.cell? ⟨w.heap.size + 1 + 1, 5, none⟩ = some (.bool b.o5)) := Lib.hid (below_some hb5 _ _ _ (below_some hb4 _ _ _ (below_some hb3 _ _ _ (below_some hb2 _ _ _ (below_some hb1 _ _ _ (cell_nu (by simp) rfl))))))
  have Fb6 : Hid (w5.cell? ⟨w.heap.size + 1 + 1, 6, none⟩ = some (.bool b.o6)) := Lib.hid (below_some hb5 _ _ _ (below_some hb4 _ _ _ (below_some hb3 _ _ _ (below_some hb2 _ _ _ (below_some hb1 _ _ _ (cell_nu (by simp) rfl))))))
  have Fb7 : Hid (w5.cell? ⟨w.heap.size + 1 + 1, 7, none⟩ = some (.slice b.A b.rs.length b.cR)) := Lib.hid (below_some hb5 _ _ _ (below_some hb4 _ _ _ (below_some hb3 _ _ _ (below_some hb2 _ _ _ (below_some hb1 _ _ _ (cell_nu (by simp) rfl))))))
  have Fb8 : Hid (w5.cell? ⟨w.heap.size + 1 + 1, 8, none⟩ = some (.slice b.D b.ds.length b.cD)) := Lib.hid (below_some hb5 _ _ _ (below_some hb4 _ _ _ (below_some hb3 _ _ _ (below_some hb2 _ _ _ (below_some hb1 _ _ _ (cell_nu (by simp) rfl))))))
  have hL5 := Lib.hid (hL.below hB5); have hN5 := Lib.hid (hN.below hB5); have ia5 := Lib.hid (ia.below hB5); have ib5 := Lib.hid (ib.below hB5)
  have k5 : w.heap.size + 3 ≤ w5.heap.size := by omega
  have HB5 := Lib.hid hB5
  clear ia ib hL hN hc1 hf1 hB1 hb1 hz1 hc2 hf2 hB2 hb2 hz2 hc3 hf3 hB3 hb3 hz3 hc4 hf4 hB4 hb4 hz4 hc5 hf5 hB5 hb5 hz5
  clear fa fb ma mb
  try clear le_w_w1
  try clear lt_w_w1
  try clear le1_w_w1
  try clear lt1_w_w1
  try clear le2_w_w1
  try clear lt2_w_w1
  try clear le_w_w2
  try clear lt_w_w2
  try clear le1_w_w2
  try clear lt1_w_w2
  try clear le2_w_w2
  try clear lt2_w_w2
  try clear le_w_w3
  try clear lt_w_w3
  try clear le1_w_w3
  try clear lt1_w_w3
  try clear le2_w_w3
  try clear lt2_w_w3
  try clear le_w_w4
  try clear lt_w_w4
  try clear le1_w_w4
  try clear lt1_w_w4
  try clear le2_w_w4
  try clear lt2_w_w4
  try clear le_w_w5
  try clear lt_w_w5
  try clear le1_w_w5
  try clear lt1_w_w5
  try clear le2_w_w5
  try clear lt2_w_w5
  try clear le_w1_w2
  try clear lt_w1_w2
  try clear le1_w1_w2
  try clear lt1_w1_w2
  try clear le2_w1_w2
  try clear lt2_w1_w2
  try clear le_w1_w3
  try clear lt_w1_w3
  try clear le1_w1_w3
  try clear lt1_w1_w3
  try clear le2_w1_w3
  try clear lt2_w1_w3
  try clear le_w1_w4
  try clear lt_w1_w4
  try clear le1_w1_w4
  try clear lt1_w1_w4
  try clear le2_w1_w4
  try clear lt2_w1_w4
  try clear le_w1_w5
  try clear lt_w1_w5
  try clear le1_w1_w5
  try clear lt1_w1_w5
  try clear le2_w1_w5
  try clear lt2_w1_w5
  try clear le_w2_w3
  try clear lt_w2_w3
  try clear le1_w2_w3
  try clear lt1_w2_w3
  try clear le2_w2_w3
  try clear lt2_w2_w3
  try clear le_w2_w4
  try clear lt_w2_w4
  try clear le1_w2_w4
  try clear lt1_w2_w4
  try clear le2_w2_w4
  try clear lt2_w2_w4
  try clear le_w2_w5
  try clear lt_w2_w5
  try clear le1_w2_w5
  try clear lt1_w2_w5
  try clear le2_w2_w5
  try clear lt2_w2_w5
  try clear le_w3_w4
  try clear lt_w3_w4
  try clear le1_w3_w4
  try clear lt1_w3_w4
  try clear le2_w3_w4
  try clear lt2_w3_w4
  try clear le_w3_w5
  try clear lt_w3_w5
  try clear le1_w3_w5
  try clear lt1_w3_w5
  try clear le2_w3_w5
  try clear lt2_w3_w5
  try clear le_w4_w5
  try clear lt_w4_w5
  try clear le1_w4_w5
  try clear lt1_w4_w5
  try clear le2_w4_w5
  try clear lt2_w4_w5
  have h9 : Hid (Below w5.heap.size w5 w5) := Lib.hid (Below.refl _ _)
  have da0 := below_some h9.out _ _ _ Fa0.out
  have da1 := below_some h9.out _ _ _ Fa1.out
  have da2 := below_some h9.out _ _ _ Fa2.out
  have da3 := below_some h9.out _ _ _ Fa3.out
  have da4 := below_some h9.out _ _ _ Fa4.out
  have da5 := below_some h9.out _ _ _ Fa5.out
  have da6 := below_some h9.out _ _ _ Fa6.out
  have da7 := below_some h9.out _ _ _ Fa7.out
  have da8 := below_some h9.out _ _ _ Fa8.out
  have db0 := below_some h9.out _ _ _ Fb0.out
  have db1 := below_some h9.out _ _ _ Fb1.out
  have db2 := below_some h9.out _ _ _ Fb2.out
  have db3 := below_some h9.out _ _ _ Fb3.out
  have db4 := below_some h9.out _ _ _ Fb4.out
  have db5 := below_some h9.out _ _ _ Fb5.out
  have db6 := below_some h9.out _ _ _ Fb6.out
  have db7 := below_some h9.out _ _ _ Fb7.out
  have db8 := below_some h9.out _ _ _ Fb8.out
  (try go_simp); (repeat (first | ((with_reducible refine wp_region_app ?_); simp only [List.cons_append, List.nil_append]) | go_values | go_skip | go_guarded | go_step | go_upon))
  refine (uniY_c a b HMA.out HMB.out HFA.out HFB.out UAB.out p0 p1 p2 p3 p4 p5 p6 hp rs' hrs ds' hds _ (hL5.out.below (by have h9 := h9.out; repeat (first | (with_reducible assumption) | (with_reducible exact Below.refl _ _) | (with_reducible refine Below.drew ?_) | (with_reducible refine below_drewN' ?_ _) | (with_reducible refine below_al ?_) | ((with_reducible refine below_set ?_ ?_); rotate_left; focus (first | (simp; done) | (simp; omega)))))) (hN5.out.below (by have h9 := h9.out; repeat (first | (with_reducible assumption) | (with_reducible exact Below.refl _ _) | (with_reducible refine Below.drew ?_) | (with_reducible refine below_drewN' ?_ _) | (with_reducible refine below_al ?_) | ((with_reducible refine below_set ?_ ?_); rotate_left; focus (first | (simp; done) | (simp; omega)))))) (ia5.out.below (by have h9 := h9.out; repeat (first | (with_reducible assumption) | (with_reducible exact Below.refl _ _) | (with_reducible refine Below.drew ?_) | (with_reducible refine below_drewN' ?_ _) | (with_reducible refine below_al ?_) | ((with_reducible refine below_set ?_ ?_); rotate_left; focus (first | (simp; done) | (simp; omega)))))) (ib5.out.below (by have h9 := h9.out; repeat (first | (with_reducible assumption) | (with_reducible exact Below.refl _ _) | (with_reducible refine Below.drew ?_) | (with_reducible refine below_drewN' ?_ _) | (with_reducible refine below_al ?_) | ((with_reducible refine below_set ?_ ?_); rotate_left; focus (first | (simp; done) | (simp; omega))))))).mono ?_; rintro e w6 ⟨xA, xc, xD, xd, rfl, hxr, hxd, hb6⟩
  have h9' := Lib.hid (below_step (w := w5) hb6 (by have h9 := h9.out; repeat (first | (with_reducible assumption) | (with_reducible exact Below.refl _ _) | (with_reducible refine Below.drew ?_) | (with_reducible refine below_drewN' ?_ _) | (with_reducible refine below_al ?_) | ((with_reducible refine below_set ?_ ?_); rotate_left; focus (first | (simp; done) | (simp; omega)))))); clear h9; have h9 := h9'; clear h9'
  have k_w6 : w5.heap.size ≤ w6.heap.size := h9.out.size
  have l1_w6 : w.heap.size + 1 < w6.heap.size := by omega
  have l2_w6 : w.heap.size + 1 + 1 < w6.heap.size := by omega
  clear da0 da1 da2 da3 da4 da5 da6 da7 da8
  clear db0 db1 db2 db3 db4 db5 db6 db7 db8
  clear hb6
  have da0 := below_some h9.out _ _ _ Fa0.out
  have da1 := below_some h9.out _ _ _ Fa1.out
  have da2 := below_some h9.out _ _ _ Fa2.out
  have da3 := below_some h9.out _ _ _ Fa3.out
  have da4 := below_some h9.out _ _ _ Fa4.out
  have da5 := below_some h9.out _ _ _ Fa5.out
  have da6 := below_some h9.out _ _ _ Fa6.out
  have da7 := below_some h9.out _ _ _ Fa7.out
  have da8 := below_some h9.out _ _ _ Fa8.out
  have db0 := below_some h9.out _ _ _ Fb0.out
  have db1 := below_some h9.out _ _ _ Fb1.out
  have db2 := below_some h9.out _ _ _ Fb2.out
  have db3 := below_some h9.out _ _ _ Fb3.out
  have db4 := below_some h9.out _ _ _ Fb4.out
  have db5 := below_some h9.out _ _ _ Fb5.out
  have db6 := below_some h9.out _ _ _ Fb6.out
  have db7 := below_some h9.out _ _ _ Fb7.out
  have db8 := below_some h9.out _ _ _ Fb8.out
  (try go_simp); (repeat (first | ((with_reducible refine wp_region_app ?_); simp only [List.cons_append, List.nil_append]) | go_values | go_skip | go_guarded | go_step | go_upon))
  refine (runiY_c a b HMA.out HMB.out HFA.out HFB.out UAB.out p0 p1 p2 p3 p4 p5 p6 hp rs' hrs ds' hds _ (ia5.out.below (by have h9 := h9.out; repeat (first | (with_reducible assumption) | (with_reducible exact Below.refl _ _) | (with_reducible refine Below.drew ?_) | (with_reducible refine below_drewN' ?_ _) | (with_reducible refine below_al ?_) | ((with_reducible refine below_set ?_ ?_); rotate_left; focus (first | (simp; done) | (simp; omega)))))) (ib5.out.below (by have h9 := h9.out; repeat (first | (with_reducible assumption) | (with_reducible exact Below.refl _ _) | (with_reducible refine Below.drew ?_) | (with_reducible refine below_drewN' ?_ _) | (with_reducible refine below_al ?_) | ((with_reducible refine below_set ?_ ?_); rotate_left; focus (first | (simp; done) | (simp; omega))))))).mono ?_; rintro e w7 ⟨yA, yc, yD, yd, rfl, hyr, hyd, hb7⟩
  have h9' := Lib.hid (below_step (w := w5) hb7 (by have h9 := h9.out; repeat (first | (with_reducible assumption) | (with_reducible exact Below.refl _ _) | (with_reducible refine Below.drew ?_) | (with_reducible refine below_drewN' ?_ _) | (with_reducible refine below_al ?_) | ((with_reducible refine below_set ?_ ?_); rotate_left; focus (first | (simp; done) | (simp; omega)))))); clear h9; have h9 := h9'; clear h9'
  have k_w7 : w5.heap.size ≤ w7.heap.size := h9.out.size
  have l1_w7 : w.heap.size + 1 < w7.heap.size := by omega
  have l2_w7 : w.heap.size + 1 + 1 < w7.heap.size := by omega
  clear da0 da1 da2 da3 da4 da5 da6 da7 da8
  clear db0 db1 db2 db3 db4 db5 db6 db7 db8
  have Fx0 : Hid (w7.cell? ⟨w6.heap.size, 0, none⟩ = some (.bool p0)) := Lib.hid (below_some hb7 _ _ _ (cell_nu rfl rfl))
  have Fx1 : Hid (w7.cell? ⟨w6.heap.size, 1, none⟩ = some (.bool p1)) := Lib.hid (below_some hb7 _ _ _ (cell_nu rfl rfl))
  have Fx2 : Hid (w7.cell? ⟨w6.heap.size, 2, none⟩ = some (.bool p2)) := Lib.hid (below_some hb7 _ _ _ (cell_nu rfl rfl))
  have Fx3 : Hid (w7.cell? ⟨w6.heap.size, 3, none⟩ = some (.bool p3)) := Lib.hid (below_some hb7 _ _ _ (cell_nu rfl rfl))
  have Fx4 : Hid (w7.cell? ⟨w6.heap.size, 4, none⟩ = some (.bool p4)) := Lib.hid (below_some hb7 _ _ _ (cell_nu rfl rfl))
  have Fx5 : Hid (w7.cell? ⟨w6.heap.size, 5, none⟩ = some (.bool p5)) := Lib.hid (below_some hb7 _ _ _ (cell_nu rfl rfl))
  have Fx6 : Hid (w7.cell? ⟨w6.heap.size, 6, none⟩ = some (.bool p6)) := Lib.hid (below_some hb7 _ _ _ (cell_nu rfl rfl))
  have Fx7 : Hid (w7.cell? ⟨w6.heap.size, 7, none⟩ = some (.slice xA rs'.length xc)) := Lib.hid (below_some hb7 _ _ _ (cell_nu rfl rfl))
  have Fx8 : Hid (w7.cell? ⟨w6.heap.size, 8, none⟩ = some (.slice xD ds'.length xd)) := Lib.hid (below_some hb7 _ _ _ (cell_nu rfl rfl))
  have b67 : Hid (Below w6.heap.size w6 w7) := Lib.hid (below_step (w := w6) hb7 (below_al (Below.refl _ _))); clear hb7
  have da0 := below_some h9.out _ _ _ Fa0.out
  have da1 := below_some h9.out _ _ _ Fa1.out
  have da2 := below_some h9.out _ _ _ Fa2.out
  have da3 := below_some h9.out _ _ _ Fa3.out
  have da4 := below_some h9.out _ _ _ Fa4.out
  have da5 := below_some h9.out _ _ _ Fa5.out
  have da6 := below_some h9.out _ _ _ Fa6.out
  have da7 := below_some h9.out _ _ _ Fa7.out
  have da8 := below_some h9.out _ _ _ Fa8.out
  (try go_simp); (repeat (first | ((with_reducible refine wp_region_app ?_); simp only [List.cons_append, List.nil_append]) | go_values | go_skip | go_guarded | go_step | go_upon))
  refine (cmany_c a n m hka.out x c hR _ (hL5.out.below (by have h9 := h9.out; repeat (first | (with_reducible assumption) | (with_reducible exact Below.refl _ _) | (with_reducible refine Below.drew ?_) | (with_reducible refine below_drewN' ?_ _) | (with_reducible refine below_al ?_) | ((with_reducible refine below_set ?_ ?_); rotate_left; focus (first | (simp; done) | (simp; omega)))))) (ia5.out.below (by have h9 := h9.out; repeat (first | (with_reducible assumption) | (with_reducible exact Below.refl _ _) | (with_reducible refine Below.drew ?_) | (with_reducible refine below_drewN' ?_ _) | (with_reducible refine below_al ?_) | ((with_reducible refine below_set ?_ ?_); rotate_left; focus (first | (simp; done) | (simp; omega))))))).mono ?_; rintro e w8 ⟨rfl, hb8⟩
  have h9' := Lib.hid (below_step (w := w5) hb8 (by have h9 := h9.out; repeat (first | (with_reducible assumption) | (with_reducible exact Below.refl _ _) | (with_reducible refine Below.drew ?_) | (with_reducible refine below_drewN' ?_ _) | (with_reducible refine below_al ?_) | ((with_reducible refine below_set ?_ ?_); rotate_left; focus (first | (simp; done) | (simp; omega)))))); clear h9; have h9 := h9'; clear h9'
  have k_w8 : w5.heap.size ≤ w8.heap.size := h9.out.size
  have l1_w8 : w.heap.size + 1 < w8.heap.size := by omega
  have l2_w8 : w.heap.size + 1 + 1 < w8.heap.size := by omega
  clear da0 da1 da2 da3 da4 da5 da6 da7 da8
  have Fy0 : Hid (w8.cell? ⟨w7.heap.size, 0, none⟩ = some (.bool p0)) := Lib.hid (below_some hb8 _ _ _ (cell_nu rfl rfl))
  have Fy1 : Hid (w8.cell? ⟨w7.heap.size, 1, none⟩ = some (.bool p1)) := Lib.hid (below_some hb8 _ _ _ (cell_nu rfl rfl))
  have Fy2 : Hid (w8.cell? ⟨w7.heap.size, 2, none⟩ = some (.bool p2)) := Lib.hid (below_some hb8 _ _ _ (cell_nu rfl rfl))
  have Fy3 : Hid (w8.cell? ⟨w7.heap.size, 3, none⟩ = some (.bool p3)) := Lib.hid (below_some hb8 _ _ _ (cell_nu rfl rfl))
  have Fy4 : Hid (w8.cell? ⟨w7.heap.size, 4, none⟩ = some (.bool p4)) := Lib.hid (below_some hb8 _ _ _ (cell_nu rfl rfl))
  have Fy5 : Hid (w8.cell? ⟨w7.heap.size, 5, none⟩ = some (.bool p5)) := Lib.hid (below_some hb8 _ _ _ (cell_nu rfl rfl))
  have Fy6 : Hid (w8.cell? ⟨w7.heap.size, 6, none⟩ = some (.bool p6)) := Lib.hid (below_some hb8 _ _ _ (cell_nu rfl rfl))
  have Fy7 : Hid (w8.cell? ⟨w7.heap.size, 7, none⟩ = some (.slice yA rs'.length yc)) := Lib.hid (below_some hb8 _ _ _ (cell_nu rfl rfl))
  have Fy8 : Hid (w8.cell? ⟨w7.heap.size, 8, none⟩ = some (.slice yD ds'.length yd)) := Lib.hid (below_some hb8 _ _ _ (cell_nu rfl rfl))
  have b78 : Hid (Below w7.heap.size w7 w8) := Lib.hid (below_step (w := w7) hb8 (below_al (Below.refl _ _))); clear hb8
  have da0 := below_some h9.out _ _ _ Fa0.out
  have da1 := below_some h9.out _ _ _ Fa1.out
  have da2 := below_some h9.out _ _ _ Fa2.out
  have da3 := below_some h9.out _ _ _ Fa3.out
  have da4 := below_some h9.out _ _ _ Fa4.out
  have da5 := below_some h9.out _ _ _ Fa5.out
  have da6 := below_some h9.out _ _ _ Fa6.out
  have da7 := below_some h9.out _ _ _ Fa7.out
  have da8 := below_some h9.out _ _ _ Fa8.out
  (try go_simp); (repeat (first | ((with_reducible refine wp_region_app ?_); simp only [List.cons_append, List.nil_append]) | go_values | go_skip | go_guarded | go_step | go_upon))
  refine (rmany_c a n m hka.out x c hR _ (hL5.out.below (by have h9 := h9.out; repeat (first | (with_reducible assumption) | (with_reducible exact Below.refl _ _) | (with_reducible refine Below.drew ?_) | (with_reducible refine below_drewN' ?_ _) | (with_reducible refine below_al ?_) | ((with_reducible refine below_set ?_ ?_); rotate_left; focus (first | (simp; done) | (simp; omega)))))) (ia5.out.below (by have h9 := h9.out; repeat (first | (with_reducible assumption) | (with_reducible exact Below.refl _ _) | (with_reducible refine Below.drew ?_) | (with_reducible refine below_drewN' ?_ _) | (with_reducible refine below_al ?_) | ((with_reducible refine below_set ?_ ?_); rotate_left; focus (first | (simp; done) | (simp; omega))))))).mono ?_; rintro e w9 ⟨rfl, hb9⟩
  have h9' := Lib.hid (below_step (w := w5) hb9 (by have h9 := h9.out; repeat (first | (with_reducible assumption) | (with_reducible exact Below.refl _ _) | (with_reducible refine Below.drew ?_) | (with_reducible refine below_drewN' ?_ _) | (with_reducible refine below_al ?_) | ((with_reducible refine below_set ?_ ?_); rotate_left; focus (first | (simp; done) | (simp; omega)))))); clear h9; have h9 := h9'; clear h9'
  have k_w9 : w5.heap.size ≤ w9.heap.size := h9.out.size
  have l1_w9 : w.heap.size + 1 < w9.heap.size := by omega
  have l2_w9 : w.heap.size + 1 + 1 < w9.heap.size := by omega
  clear da0 da1 da2 da3 da4 da5 da6 da7 da8
  have b79 : Below w7.heap.size w7 w9 := b78.out.trans (hb9.mono b78.out.size)
  have b69 : Below w6.heap.size w6 w9 := b67.out.trans (b79.mono b67.out.size)
  have dx0 := below_some b79 _ _ _ Fx0.out
  have dy0 := below_some hb9 _ _ _ Fy0.out
  have dx1 := below_some b79 _ _ _ Fx1.out
  have dy1 := below_some hb9 _ _ _ Fy1.out
  have dx2 := below_some b79 _ _ _ Fx2.out
  have dy2 := below_some hb9 _ _ _ Fy2.out
  have dx3 := below_some b79 _ _ _ Fx3.out
  have dy3 := below_some hb9 _ _ _ Fy3.out
  have dx4 := below_some b79 _ _ _ Fx4.out
  have dy4 := below_some hb9 _ _ _ Fy4.out
  have dx5 := below_some b79 _ _ _ Fx5.out
  have dy5 := below_some hb9 _ _ _ Fy5.out
  have dx6 := below_some b79 _ _ _ Fx6.out
  have dy6 := below_some hb9 _ _ _ Fy6.out
  have dx7 := below_some b79 _ _ _ Fx7.out
  have dy7 := below_some hb9 _ _ _ Fy7.out
  have dx8 := below_some b79 _ _ _ Fx8.out
  have dy8 := below_some hb9 _ _ _ Fy8.out
  have HXR := Lib.hid (hxr.below b69); have HXD := Lib.hid (hxd.below b69); have HYR := Lib.hid (hyr.below b79); have HYD := Lib.hid (hyd.below b79); clear hxr hxd hyr hyd
  clear b79 b69 hb9
  (try go_simp); (repeat (first | ((with_reducible refine wp_region_app ?_); simp only [List.cons_append, List.nil_append]) | go_values | go_skip | go_guarded | go_step | go_upon))
  refine (same_c p0 p1 p2 p3 p4 p5 p6 xA yA xc yc rs' xD yD xd yd ds' lr ld _ HXR.out HYR.out HXD.out HYD.out).mono ?_; rintro e w10 ⟨rfl, hb10⟩
  have hB10 : Below w.heap.size w w10 := HB5.out.trans ((below_step (w := w5) hb10 (by have h9 := h9.out; repeat (first | (with_reducible assumption) | (with_reducible exact Below.refl _ _) | (with_reducible refine Below.drew ?_) | (with_reducible refine below_drewN' ?_ _) | (with_reducible refine below_al ?_) | ((with_reducible refine below_set ?_ ?_); rotate_left; focus (first | (simp; done) | (simp; omega)))))).mono HB5.out.size)
  (try go_simp); (repeat (first | ((with_reducible refine wp_region_app ?_); simp only [List.cons_append, List.nil_append]) | go_values | go_skip | go_guarded | go_step | go_upon))
  go_ret
  exact ⟨rfl, hB10⟩
set_option maxRecDepth 100000 in
set_option maxHeartbeats 8000000 in
theorem calUnites_g3n (a b : CalP) (n m : Int) (fa : a.few = true) (fb : b.few = true) (ma : a.may = true) (mb : b.may = true) (t1 : decide (n < m) = true) (d : Int) (sd : IntKind.i64.wrap (m - n) = d) (t2 : decide (100 < d) = true) (t3 : decide (d ≤ 4000) = false) (x c : Int) (hR : Hid (many a n m = (x, c))) (sc : IntKind.i64.wrap c = c) (sx : (x == x) = true) (scc : (c == c) = true) (uab : uopen a b = false)  (w : World) (hL : Laid w) (hN : AllOff w) (ia : CalIn w a) (ib : CalIn w b) : Calls Tryd.prog 10 #[.agg #[.bool a.o0, .bool a.o1, .bool a.o2, .bool a.o3, .bool a.o4, .bool a.o5, .bool a.o6, .slice a.A a.rs.length a.cR, .slice a.D a.ds.length a.cD, .bool b.o0, .bool b.o1, .bool b.o2, .bool b.o3, .bool b.o4, .bool b.o5, .bool b.o6, .slice b.A b.rs.length b.cR, .slice b.D b.ds.length b.cD, .int .i64 n, .int .i64 m]] w fun e w' => e = .returned (.bool true) ∧ Below w.heap.size w w' := by
  have hka := Lib.hid (CalP.ok ma)
  have UAB := Lib.hid uab; clear uab
  have HMA := Lib.hid ma; have HMB := Lib.hid mb; have HFA := Lib.hid fa; have HFB := Lib.hid fb
  have hB : Below w.heap.size w w := Below.refl _ _
  go_enter Tryd.func10, Tryd.ntmps10
  (try go_simp); (repeat (first | ((with_reducible refine wp_region_app ?_); simp only [List.cons_append, List.nil_append]) | go_values | go_skip | go_guarded | go_step | go_upon))
  refine (shown13_c _ (hL.below (by repeat (first | assumption | exact Below.refl _ _ | (with_reducible refine Below.drew ?_) | (with_reducible refine below_drewN' ?_ _) | (with_reducible refine below_al ?_) | ((with_reducible refine below_set ?_ ?_); rotate_left; focus (first | (simp; done) | (simp; omega)))))) (hN.below (by repeat (first | assumption | exact Below.refl _ _ | (with_reducible refine Below.drew ?_) | (with_reducible refine below_drewN' ?_ _) | (with_reducible refine below_al ?_) | ((with_reducible refine below_set ?_ ?_); rotate_left; focus (first | (simp; done) | (simp; omega))))))).mono ?_; rintro e w1 ⟨rfl, hb1⟩
  have hz1 := hb1.size; (try simp at hz1); obtain ⟨hc1, hf1⟩ := bcell hb1; have hB1 := below_step (w := w) hb1 (by repeat (first | assumption | exact Below.refl _ _ | (with_reducible refine Below.drew ?_) | (with_reducible refine below_drewN' ?_ _) | (with_reducible refine below_al ?_) | ((with_reducible refine below_set ?_ ?_); rotate_left; focus (first | (simp; done) | (simp; omega)))))
  have le_w_w1 : w.heap.size ≤ w1.heap.size := by omega
  try have lt_w_w1 : w.heap.size < w1.heap.size := by omega
  have le1_w_w1 : w.heap.size + 1 ≤ w1.heap.size := by omega
  try have lt1_w_w1 : w.heap.size + 1 < w1.heap.size := by omega
  have le2_w_w1 : w.heap.size + 2 ≤ w1.heap.size := by omega
  try have lt2_w_w1 : w.heap.size + 2 < w1.heap.size := by omega
  (try go_simp); (repeat (first | ((with_reducible refine wp_region_app ?_); simp only [List.cons_append, List.nil_append]) | go_values | go_skip | go_guarded | go_step | go_upon))
  refine (few_c a _).mono ?_; rintro e w2 ⟨rfl, hb2⟩
  have hz2 := hb2.size; (try simp at hz2); obtain ⟨hc2, hf2⟩ := bcell hb2; have hB2 := below_step (w := w) hb2 (by repeat (first | assumption | exact Below.refl _ _ | (with_reducible refine Below.drew ?_) | (with_reducible refine below_drewN' ?_ _) | (with_reducible refine below_al ?_) | ((with_reducible refine below_set ?_ ?_); rotate_left; focus (first | (simp; done) | (simp; omega)))))
  have le_w_w2 : w.heap.size ≤ w2.heap.size := by omega
  try have lt_w_w2 : w.heap.size < w2.heap.size := by omega
  have le1_w_w2 : w.heap.size + 1 ≤ w2.heap.size := by omega
  try have lt1_w_w2 : w.heap.size + 1 < w2.heap.size := by omega
  have le2_w_w2 : w.heap.size + 2 ≤ w2.heap.size := by omega
  try have lt2_w_w2 : w.heap.size + 2 < w2.heap.size := by omega
  have le_w1_w2 : w1.heap.size ≤ w2.heap.size := by omega
  try have lt_w1_w2 : w1.heap.size < w2.heap.size := by omega
  (try go_simp); (repeat (first | ((with_reducible refine wp_region_app ?_); simp only [List.cons_append, List.nil_append]) | go_values | go_skip | go_guarded | go_step | go_upon))
  refine (few_c b _).mono ?_; rintro e w3 ⟨rfl, hb3⟩
  have hz3 := hb3.size; (try simp at hz3); obtain ⟨hc3, hf3⟩ := bcell hb3; have hB3 := below_step (w := w) hb3 (by repeat (first | assumption | exact Below.refl _ _ | (with_reducible refine Below.drew ?_) | (with_reducible refine below_drewN' ?_ _) | (with_reducible refine below_al ?_) | ((with_reducible refine below_set ?_ ?_); rotate_left; focus (first | (simp; done) | (simp; omega)))))
  have le_w_w3 : w.heap.size ≤ w3.heap.size := by omega
  try have lt_w_w3 : w.heap.size < w3.heap.size := by omega
  have le1_w_w3 : w.heap.size + 1 ≤ w3.heap.size := by omega
  try have lt1_w_w3 : w.heap.size + 1 < w3.heap.size := by omega
  have le2_w_w3 : w.heap.size + 2 ≤ w3.heap.size := by omega
  try have lt2_w_w3 : w.heap.size + 2 < w3.heap.size := by omega
  have le_w1_w3 : w1.heap.size ≤ w3.heap.size := by omega
  try have lt_w1_w3 : w1.heap.size < w3.heap.size := by omega
  have le_w2_w3 : w2.heap.size ≤ w3.heap.size := by omega
  try have lt_w2_w3 : w2.heap.size < w3.heap.size := by omega
  (try go_simp); (repeat (first | ((with_reducible refine wp_region_app ?_); simp only [List.cons_append, List.nil_append]) | go_values | go_skip | go_guarded | go_step | go_upon))
  refine (rcalMay_c a _ (ia.below (by repeat (first | assumption | exact Below.refl _ _ | (with_reducible refine Below.drew ?_) | (with_reducible refine below_drewN' ?_ _) | (with_reducible refine below_al ?_) | ((with_reducible refine below_set ?_ ?_); rotate_left; focus (first | (simp; done) | (simp; omega))))))).mono ?_; rintro e w4 ⟨rfl, hb4⟩
  have hz4 := hb4.size; (try simp at hz4); obtain ⟨hc4, hf4⟩ := bcell hb4; have hB4 := below_step (w := w) hb4 (by repeat (first | assumption | exact Below.refl _ _ | (with_reducible refine Below.drew ?_) | (with_reducible refine below_drewN' ?_ _) | (with_reducible refine below_al ?_) | ((with_reducible refine below_set ?_ ?_); rotate_left; focus (first | (simp; done) | (simp; omega)))))
  have le_w_w4 : w.heap.size ≤ w4.heap.size := by omega
  try have lt_w_w4 : w.heap.size < w4.heap.size := by omega
  have le1_w_w4 : w.heap.size + 1 ≤ w4.heap.size := by omega
  try have lt1_w_w4 : w.heap.size + 1 < w4.heap.size := by omega
  have le2_w_w4 : w.heap.size + 2 ≤ w4.heap.size := by omega
  try have lt2_w_w4 : w.heap.size + 2 < w4.heap.size := by omega
  have le_w1_w4 : w1.heap.size ≤ w4.heap.size := by omega
  try have lt_w1_w4 : w1.heap.size < w4.heap.size := by omega
  have le_w2_w4 : w2.heap.size ≤ w4.heap.size := by omega
  try have lt_w2_w4 : w2.heap.size < w4.heap.size := by omega
  have le_w3_w4 : w3.heap.size ≤ w4.heap.size := by omega
  try have lt_w3_w4 : w3.heap.size < w4.heap.size := by omega
  (try go_simp); (repeat (first | ((with_reducible refine wp_region_app ?_); simp only [List.cons_append, List.nil_append]) | go_values | go_skip | go_guarded | go_step | go_upon))
  refine (rcalMay_c b _ (ib.below (by repeat (first | assumption | exact Below.refl _ _ | (with_reducible refine Below.drew ?_) | (with_reducible refine below_drewN' ?_ _) | (with_reducible refine below_al ?_) | ((with_reducible refine below_set ?_ ?_); rotate_left; focus (first | (simp; done) | (simp; omega))))))).mono ?_; rintro e w5 ⟨rfl, hb5⟩
  have hz5 := hb5.size; (try simp at hz5); obtain ⟨hc5, hf5⟩ := bcell hb5; have hB5 := below_step (w := w) hb5 (by repeat (first | assumption | exact Below.refl _ _ | (with_reducible refine Below.drew ?_) | (with_reducible refine below_drewN' ?_ _) | (with_reducible refine below_al ?_) | ((with_reducible refine below_set ?_ ?_); rotate_left; focus (first | (simp; done) | (simp; omega)))))
  have le_w_w5 : w.heap.size ≤ w5.heap.size := by omega
  try have lt_w_w5 : w.heap.size < w5.heap.size := by omega
  have le1_w_w5 : w.heap.size + 1 ≤ w5.heap.size := by omega
  try have lt1_w_w5 : w.heap.size + 1 < w5.heap.size := by omega
  have le2_w_w5 : w.heap.size + 2 ≤ w5.heap.size := by omega
  try have lt2_w_w5 : w.heap.size + 2 < w5.heap.size := by omega
  have le_w1_w5 : w1.heap.size ≤ w5.heap.size := by omega
  try have lt_w1_w5 : w1.heap.size < w5.heap.size := by omega
  have le_w2_w5 : w2.heap.size ≤ w5.heap.size := by omega
  try have lt_w2_w5 : w2.heap.size < w5.heap.size := by omega
  have le_w3_w5 : w3.heap.size ≤ w5.heap.size := by omega
  try have lt_w3_w5 : w3.heap.size < w5.heap.size := by omega
  have le_w4_w5 : w4.heap.size ≤ w5.heap.size := by omega
  try have lt_w4_w5 : w4.heap.size < w5.heap.size := by omega
  have Fa0 : Hid (w5.cell? ⟨w.heap.size + 1, 0, none⟩ = some (.bool a.o0)) := Lib.hid (below_some hb5 _ _ _ (below_some hb4 _ _ _ (below_some hb3 _ _ _ (below_some hb2 _ _ _ (below_some hb1 _ _ _ (cell_al (cell_nu (by simp) rfl)))))))
  have Fa1 : Hid (w5.cell? ⟨w.heap.size + 1, 1, none⟩ = some (.bool a.o1)) := Lib.hid (below_some hb5 _ _ _ (below_some hb4 _ _ _ (below_some hb3 _ _ _ (below_some hb2 _ _ _ (below_some hb1 _ _ _ (cell_al (cell_nu (by simp) rfl)))))))
  have Fa2 : Hid (w5.cell? ⟨w.heap.size + 1, 2, none⟩ = some (.bool a.o2)) := Lib.hid (below_some hb5 _ _ _ (below_some hb4 _ _ _ (below_some hb3 _ _ _ (below_some hb2 _ _ _ (below_some hb1 _ _ _ (cell_al (cell_nu (by simp) rfl)))))))
  have Fa3 : Hid (w5.cell? ⟨w.heap.size + 1, 3, none⟩ = some (.bool a.o3)) := Lib.hid (below_some hb5 _ _ _ (below_some hb4 _ _ _ (below_some hb3 _ _ _ (below_some hb2 _ _ _ (below_some hb1 _ _ _ (cell_al (cell_nu (by simp) rfl)))))))
  have Fa4 : Hid (w5.cell? ⟨w.heap.size + 1, 4, none⟩ = some (.bool a.o4)) := Lib.hid (below_some hb5 _ _ _ (below_some hb4 _ _ _ (below_some hb3 _ _ _ (below_some hb2 _ _ _ (below_some hb1 _ _ _ (cell_al (cell_nu (by simp) rfl)))))))
  have Fa5 : Hid (w5.cell? ⟨w.heap.size + 1, 5, none⟩ = some (.bool a.o5)) := Lib.hid (below_some hb5 _ _ _ (below_some hb4 _ _ _ (below_some hb3 _ _ _ (below_some hb2 _ _ _ (below_some hb1 _ _ _ (cell_al (cell_nu (by simp) rfl)))))))
  have Fa6 : Hid (w5.cell? ⟨w.heap.size + 1, 6, none⟩ = some (.bool a.o6)) := Lib.hid (below_some hb5 _ _ _ (below_some hb4 _ _ _ (below_some hb3 _ _ _ (below_some hb2 _ _ _ (below_some hb1 _ _ _ (cell_al (cell_nu (by simp) rfl)))))))
  have Fa7 : Hid (w5.cell? ⟨w.heap.size + 1, 7, none⟩ = some (.slice a.A a.rs.length a.cR)) := Lib.hid (below_some hb5 _ _ _ (below_some hb4 _ _ _ (below_some hb3 _ _ _ (below_some hb2 _ _ _ (below_some hb1 _ _ _ (cell_al (cell_nu (by simp) rfl)))))))
  have Fa8 : Hid (w5.cell? ⟨w.heap.size + 1, 8, none⟩ = some (.slice a.D a.ds.length a.cD)) := Lib.hid (below_some hb5 _ _ _ (below_some hb4 _ _ _ (below_some hb3 _ _ _ (below_some hb2 _ _ _ (below_some hb1 _ _ _ (cell_al (cell_nu (by simp) rfl)))))))
  have Fb0 : Hid (w5.cell? ⟨w.heap.size + 1 + 1, 0, none⟩ = some (.bool b.o0)) := Lib.hid (below_some hb5 _ _ _ (below_some hb4 _ _ _ (below_some hb3 _ _ _ (below_some hb2 _ _ _ (below_some hb1 _ _ _ (cell_nu (by simp) rfl))))))
  have Fb1 : Hid (w5.cell? ⟨w.heap.size + 1 + 1, 1, none⟩ = some (.bool b.o1)) := Lib.hid (below_some hb5 _ _ _ (below_some hb4 _ _ _ (below_some hb3 _ _ _ (below_some hb2 _ _ _ (below_some hb1 _ _ _ (cell_nu (by simp) rfl))))))
  have Fb2 : Hid (w5.cell? ⟨w.heap.size + 1 + 1, 2, none⟩ = some (.bool b.o2)) := Lib.hid (below_some hb5 _ _ _ (below_some hb4 _ _ _ (below_some hb3 _ _ _ (below_some hb2 _ _ _ (below_some hb1 _ _ _ (cell_nu (by simp) rfl))))))
  have Fb3 : Hid (w5.cell? ⟨w.heap.size + 1 + 1, 3, none⟩ = some (.bool b.o3)) := Lib.hid (below_some hb5 _ _ _ (below_some hb4 _ _ _ (below_some hb3 _ _ _ (below_some hb2 _ _ _ (below_some hb1 _ _ _ (cell_nu (by simp) rfl))))))
  have Fb4 : Hid (w5.cell? ⟨w.heap.size + 1 + 1, 4, none⟩ = some (.bool b.o4)) := Lib.hid (below_some hb5 _ _ _ (below_some hb4 _ _ _ (below_some hb3 _ _ _ (below_some hb2 _ _ _ (below_some hb1 _ _ _ (cell_nu (by simp) rfl))))))
  have Fb5 : Hid (w5.cell? ⟨w.heap.size + 1 + 1, 5, none⟩ = some (.bool b.o5)) := Lib.hid (below_some hb5 _ _ _ (below_some hb4 _ _ _ (below_some hb3 _ _ _ (below_some hb2 _ _ _ (below_some hb1 _ _ _ (cell_nu (by simp) rfl))))))
  have Fb6 : Hid (w5.cell? ⟨w.heap.size + 1 + 1, 6, none⟩ = some (.bool b.o6)) := Lib.hid (below_some hb5 _ _ _ (below_some hb4 _ _ _ (below_some hb3 _ _ _ (below_some hb2 _ _ _ (below_some hb1 _ _ _ (cell_nu (by simp) rfl))))))
  have Fb7 : Hid (w5.cell? ⟨w.heap.size + 1 + 1, 7, none⟩ = some (.slice b.A b.rs.length b.cR)) := Lib.hid (below_some hb5 _ _ _ (below_some hb4 _ _ _ (below_some hb3 _ _ _ (below_some hb2 _ _ _ (below_some hb1 _ _ _ (cell_nu (by simp) rfl))))))
  have Fb8 : Hid (w5.cell? ⟨w.heap.size + 1 + 1, 8, none⟩ = some (.slice b.D b.ds.length b.cD)) := Lib.hid (below_some hb5 _ _ _ (below_some hb4 _ _ _ (below_some hb3 _ _ _ (below_some hb2 _ _ _ (below_some hb1 _ _ _ (cell_nu (by simp) rfl))))))
  have hL5 := Lib.hid (hL.below hB5); have hN5 := Lib.hid (hN.below hB5); have ia5 := Lib.hid (ia.below hB5); have ib5 := Lib.hid (ib.below hB5)
  have k5 : w.heap.size + 3 ≤ w5.heap.size := by omega
  have HB5 := Lib.hid hB5
  clear ia ib hL hN hc1 hf1 hB1 hb1 hz1 hc2 hf2 hB2 hb2 hz2 hc3 hf3 hB3 hb3 hz3 hc4 hf4 hB4 hb4 hz4 hc5 hf5 hB5 hb5 hz5
  clear fa fb ma mb
  try clear le_w_w1
  try clear lt_w_w1
  try clear le1_w_w1
  try clear lt1_w_w1
  try clear le2_w_w1
  try clear lt2_w_w1
  try clear le_w_w2
  try clear lt_w_w2
  try clear le1_w_w2
  try clear lt1_w_w2
  try clear le2_w_w2
  try clear lt2_w_w2
  try clear le_w_w3
  try clear lt_w_w3
  try clear le1_w_w3
  try clear lt1_w_w3
  try clear le2_w_w3
  try clear lt2_w_w3
  try clear le_w_w4
  try clear lt_w_w4
  try clear le1_w_w4
  try clear lt1_w_w4
  try clear le2_w_w4
  try clear lt2_w_w4
  try clear le_w_w5
  try clear lt_w_w5
  try clear le1_w_w5
  try clear lt1_w_w5
  try clear le2_w_w5
  try clear lt2_w_w5
  try clear le_w1_w2
  try clear lt_w1_w2
  try clear le1_w1_w2
  try clear lt1_w1_w2
  try clear le2_w1_w2
  try clear lt2_w1_w2
  try clear le_w1_w3
  try clear lt_w1_w3
  try clear le1_w1_w3
  try clear lt1_w1_w3
  try clear le2_w1_w3
  try clear lt2_w1_w3
  try clear le_w1_w4
  try clear lt_w1_w4
  try clear le1_w1_w4
  try clear lt1_w1_w4
  try clear le2_w1_w4
  try clear lt2_w1_w4
  try clear le_w1_w5
  try clear lt_w1_w5
  try clear le1_w1_w5
  try clear lt1_w1_w5
  try clear le2_w1_w5
  try clear lt2_w1_w5
  try clear le_w2_w3
  try clear lt_w2_w3
  try clear le1_w2_w3
  try clear lt1_w2_w3
  try clear le2_w2_w3
  try clear lt2_w2_w3
  try clear le_w2_w4
  try clear lt_w2_w4
  try clear le1_w2_w4
  try clear lt1_w2_w4
  try clear le2_w2_w4
  try clear lt2_w2_w4
  try clear le_w2_w5
  try clear lt_w2_w5
  try clear le1_w2_w5
  try clear lt1_w2_w5
  try clear le2_w2_w5
  try clear lt2_w2_w5
  try clear le_w3_w4
  try clear lt_w3_w4
  try clear le1_w3_w4
  try clear lt1_w3_w4
  try clear le2_w3_w4
  try clear lt2_w3_w4
  try clear le_w3_w5
  try clear lt_w3_w5
  try clear le1_w3_w5
  try clear lt1_w3_w5
  try clear le2_w3_w5
  try clear lt2_w3_w5
  try clear le_w4_w5
  try clear lt_w4_w5
  try clear le1_w4_w5
  try clear lt1_w4_w5
  try clear le2_w4_w5
  try clear lt2_w4_w5
  have h9 : Hid (Below w5.heap.size w5 w5) := Lib.hid (Below.refl _ _)
  have da0 := below_some h9.out _ _ _ Fa0.out
  have da1 := below_some h9.out _ _ _ Fa1.out
  have da2 := below_some h9.out _ _ _ Fa2.out
  have da3 := below_some h9.out _ _ _ Fa3.out
  have da4 := below_some h9.out _ _ _ Fa4.out
  have da5 := below_some h9.out _ _ _ Fa5.out
  have da6 := below_some h9.out _ _ _ Fa6.out
  have da7 := below_some h9.out _ _ _ Fa7.out
  have da8 := below_some h9.out _ _ _ Fa8.out
  have db0 := below_some h9.out _ _ _ Fb0.out
  have db1 := below_some h9.out _ _ _ Fb1.out
  have db2 := below_some h9.out _ _ _ Fb2.out
  have db3 := below_some h9.out _ _ _ Fb3.out
  have db4 := below_some h9.out _ _ _ Fb4.out
  have db5 := below_some h9.out _ _ _ Fb5.out
  have db6 := below_some h9.out _ _ _ Fb6.out
  have db7 := below_some h9.out _ _ _ Fb7.out
  have db8 := below_some h9.out _ _ _ Fb8.out
  (try go_simp); (repeat (first | ((with_reducible refine wp_region_app ?_); simp only [List.cons_append, List.nil_append]) | go_values | go_skip | go_guarded | go_step | go_upon))
  refine (union_not a b HMA.out HMB.out HFA.out HFB.out UAB.out _ (hL5.out.below (by have h9 := h9.out; repeat (first | (with_reducible assumption) | (with_reducible exact Below.refl _ _) | (with_reducible refine Below.drew ?_) | (with_reducible refine below_drewN' ?_ _) | (with_reducible refine below_al ?_) | ((with_reducible refine below_set ?_ ?_); rotate_left; focus (first | (simp; done) | (simp; omega)))))) (hN5.out.below (by have h9 := h9.out; repeat (first | (with_reducible assumption) | (with_reducible exact Below.refl _ _) | (with_reducible refine Below.drew ?_) | (with_reducible refine below_drewN' ?_ _) | (with_reducible refine below_al ?_) | ((with_reducible refine below_set ?_ ?_); rotate_left; focus (first | (simp; done) | (simp; omega)))))) (ia5.out.below (by have h9 := h9.out; repeat (first | (with_reducible assumption) | (with_reducible exact Below.refl _ _) | (with_reducible refine Below.drew ?_) | (with_reducible refine below_drewN' ?_ _) | (with_reducible refine below_al ?_) | ((with_reducible refine below_set ?_ ?_); rotate_left; focus (first | (simp; done) | (simp; omega)))))) (ib5.out.below (by have h9 := h9.out; repeat (first | (with_reducible assumption) | (with_reducible exact Below.refl _ _) | (with_reducible refine Below.drew ?_) | (with_reducible refine below_drewN' ?_ _) | (with_reducible refine below_al ?_) | ((with_reducible refine below_set ?_ ?_); rotate_left; focus (first | (simp; done) | (simp; omega))))))).mono ?_; rintro e w6 ⟨hb6, rfl⟩
  have h9' := Lib.hid (below_step (w := w5) hb6 (by have h9 := h9.out; repeat (first | (with_reducible assumption) | (with_reducible exact Below.refl _ _) | (with_reducible refine Below.drew ?_) | (with_reducible refine below_drewN' ?_ _) | (with_reducible refine below_al ?_) | ((with_reducible refine below_set ?_ ?_); rotate_left; focus (first | (simp; done) | (simp; omega)))))); clear h9; have h9 := h9'; clear h9'
  have k_w6 : w5.heap.size ≤ w6.heap.size := h9.out.size
  have l1_w6 : w.heap.size + 1 < w6.heap.size := by omega
  have l2_w6 : w.heap.size + 1 + 1 < w6.heap.size := by omega
  clear da0 da1 da2 da3 da4 da5 da6 da7 da8
  clear db0 db1 db2 db3 db4 db5 db6 db7 db8
  clear hb6
  have da0 := below_some h9.out _ _ _ Fa0.out
  have da1 := below_some h9.out _ _ _ Fa1.out
  have da2 := below_some h9.out _ _ _ Fa2.out
  have da3 := below_some h9.out _ _ _ Fa3.out
  have da4 := below_some h9.out _ _ _ Fa4.out
  have da5 := below_some h9.out _ _ _ Fa5.out
  have da6 := below_some h9.out _ _ _ Fa6.out
  have da7 := below_some h9.out _ _ _ Fa7.out
  have da8 := below_some h9.out _ _ _ Fa8.out
  have db0 := below_some h9.out _ _ _ Fb0.out
  have db1 := below_some h9.out _ _ _ Fb1.out
  have db2 := below_some h9.out _ _ _ Fb2.out
  have db3 := below_some h9.out _ _ _ Fb3.out
  have db4 := below_some h9.out _ _ _ Fb4.out
  have db5 := below_some h9.out _ _ _ Fb5.out
  have db6 := below_some h9.out _ _ _ Fb6.out
  have db7 := below_some h9.out _ _ _ Fb7.out
  have db8 := below_some h9.out _ _ _ Fb8.out
  (try go_simp); (repeat (first | ((with_reducible refine wp_region_app ?_); simp only [List.cons_append, List.nil_append]) | go_values | go_skip | go_guarded | go_step | go_upon))
  refine (runiN_c a b HMA.out HMB.out HFA.out HFB.out UAB.out _ (ia5.out.below (by have h9 := h9.out; repeat (first | (with_reducible assumption) | (with_reducible exact Below.refl _ _) | (with_reducible refine Below.drew ?_) | (with_reducible refine below_drewN' ?_ _) | (with_reducible refine below_al ?_) | ((with_reducible refine below_set ?_ ?_); rotate_left; focus (first | (simp; done) | (simp; omega)))))) (ib5.out.below (by have h9 := h9.out; repeat (first | (with_reducible assumption) | (with_reducible exact Below.refl _ _) | (with_reducible refine Below.drew ?_) | (with_reducible refine below_drewN' ?_ _) | (with_reducible refine below_al ?_) | ((with_reducible refine below_set ?_ ?_); rotate_left; focus (first | (simp; done) | (simp; omega))))))).mono ?_; rintro e w7 ⟨hb7, rfl⟩
  have h9' := Lib.hid (below_step (w := w5) hb7 (by have h9 := h9.out; repeat (first | (with_reducible assumption) | (with_reducible exact Below.refl _ _) | (with_reducible refine Below.drew ?_) | (with_reducible refine below_drewN' ?_ _) | (with_reducible refine below_al ?_) | ((with_reducible refine below_set ?_ ?_); rotate_left; focus (first | (simp; done) | (simp; omega)))))); clear h9; have h9 := h9'; clear h9'
  have k_w7 : w5.heap.size ≤ w7.heap.size := h9.out.size
  have l1_w7 : w.heap.size + 1 < w7.heap.size := by omega
  have l2_w7 : w.heap.size + 1 + 1 < w7.heap.size := by omega
  clear da0 da1 da2 da3 da4 da5 da6 da7 da8
  clear db0 db1 db2 db3 db4 db5 db6 db7 db8
  have Fx0 : Hid (w7.cell? ⟨w6.heap.size, 0, none⟩ = some (.bool false)) := Lib.hid (below_some hb7 _ _ _ (cell_nu rfl rfl))
  have Fx1 : Hid (w7.cell? ⟨w6.heap.size, 1, none⟩ = some (.bool false)) := Lib.hid (below_some hb7 _ _ _ (cell_nu rfl rfl))
  have Fx2 : Hid (w7.cell? ⟨w6.heap.size, 2, none⟩ = some (.bool false)) := Lib.hid (below_some hb7 _ _ _ (cell_nu rfl rfl))
  have Fx3 : Hid (w7.cell? ⟨w6.heap.size, 3, none⟩ = some (.bool false)) := Lib.hid (below_some hb7 _ _ _ (cell_nu rfl rfl))
  have Fx4 : Hid (w7.cell? ⟨w6.heap.size, 4, none⟩ = some (.bool false)) := Lib.hid (below_some hb7 _ _ _ (cell_nu rfl rfl))
  have Fx5 : Hid (w7.cell? ⟨w6.heap.size, 5, none⟩ = some (.bool false)) := Lib.hid (below_some hb7 _ _ _ (cell_nu rfl rfl))
  have Fx6 : Hid (w7.cell? ⟨w6.heap.size, 6, none⟩ = some (.bool false)) := Lib.hid (below_some hb7 _ _ _ (cell_nu rfl rfl))
  have Fx7 : Hid (w7.cell? ⟨w6.heap.size, 7, none⟩ = some (.slice none 0 0)) := Lib.hid (below_some hb7 _ _ _ (cell_nu rfl rfl))
  have Fx8 : Hid (w7.cell? ⟨w6.heap.size, 8, none⟩ = some (.slice none 0 0)) := Lib.hid (below_some hb7 _ _ _ (cell_nu rfl rfl))
  have b67 : Hid (Below w6.heap.size w6 w7) := Lib.hid (below_step (w := w6) hb7 (below_al (Below.refl _ _))); clear hb7
  have da0 := below_some h9.out _ _ _ Fa0.out
  have da1 := below_some h9.out _ _ _ Fa1.out
  have da2 := below_some h9.out _ _ _ Fa2.out
  have da3 := below_some h9.out _ _ _ Fa3.out
  have da4 := below_some h9.out _ _ _ Fa4.out
  have da5 := below_some h9.out _ _ _ Fa5.out
  have da6 := below_some h9.out _ _ _ Fa6.out
  have da7 := below_some h9.out _ _ _ Fa7.out
  have da8 := below_some h9.out _ _ _ Fa8.out
  (try go_simp); (repeat (first | ((with_reducible refine wp_region_app ?_); simp only [List.cons_append, List.nil_append]) | go_values | go_skip | go_guarded | go_step | go_upon))
  refine (cmany_c a n m hka.out x c hR _ (hL5.out.below (by have h9 := h9.out; repeat (first | (with_reducible assumption) | (with_reducible exact Below.refl _ _) | (with_reducible refine Below.drew ?_) | (with_reducible refine below_drewN' ?_ _) | (with_reducible refine below_al ?_) | ((with_reducible refine below_set ?_ ?_); rotate_left; focus (first | (simp; done) | (simp; omega)))))) (ia5.out.below (by have h9 := h9.out; repeat (first | (with_reducible assumption) | (with_reducible exact Below.refl _ _) | (with_reducible refine Below.drew ?_) | (with_reducible refine below_drewN' ?_ _) | (with_reducible refine below_al ?_) | ((with_reducible refine below_set ?_ ?_); rotate_left; focus (first | (simp; done) | (simp; omega))))))).mono ?_; rintro e w8 ⟨rfl, hb8⟩
  have h9' := Lib.hid (below_step (w := w5) hb8 (by have h9 := h9.out; repeat (first | (with_reducible assumption) | (with_reducible exact Below.refl _ _) | (with_reducible refine Below.drew ?_) | (with_reducible refine below_drewN' ?_ _) | (with_reducible refine below_al ?_) | ((with_reducible refine below_set ?_ ?_); rotate_left; focus (first | (simp; done) | (simp; omega)))))); clear h9; have h9 := h9'; clear h9'
  have k_w8 : w5.heap.size ≤ w8.heap.size := h9.out.size
  have l1_w8 : w.heap.size + 1 < w8.heap.size := by omega
  have l2_w8 : w.heap.size + 1 + 1 < w8.heap.size := by omega
  clear da0 da1 da2 da3 da4 da5 da6 da7 da8
  have Fy0 : Hid (w8.cell? ⟨w7.heap.size, 0, none⟩ = some (.bool false)) := Lib.hid (below_some hb8 _ _ _ (cell_nu rfl rfl))
  have Fy1 : Hid (w8.cell? ⟨w7.heap.size, 1, none⟩ = some (.bool false)) := Lib.hid (below_some hb8 _ _ _ (cell_nu rfl rfl))
  have Fy2 : Hid (w8.cell? ⟨w7.heap.size, 2, none⟩ = some (.bool false)) := Lib.hid (below_some hb8 _ _ _ (cell_nu rfl rfl))
  have Fy3 : Hid (w8.cell? ⟨w7.heap.size, 3, none⟩ = some (.bool false)) := Lib.hid (below_some hb8 _ _ _ (cell_nu rfl rfl))
  have Fy4 : Hid (w8.cell? ⟨w7.heap.size, 4, none⟩ = some (.bool false)) := Lib.hid (below_some hb8 _ _ _ (cell_nu rfl rfl))
  have Fy5 : Hid (w8.cell? ⟨w7.heap.size, 5, none⟩ = some (.bool false)) := Lib.hid (below_some hb8 _ _ _ (cell_nu rfl rfl))
  have Fy6 : Hid (w8.cell? ⟨w7.heap.size, 6, none⟩ = some (.bool false)) := Lib.hid (below_some hb8 _ _ _ (cell_nu rfl rfl))
  have Fy7 : Hid (w8.cell? ⟨w7.heap.size, 7, none⟩ = some (.slice none 0 0)) := Lib.hid (below_some hb8 _ _ _ (cell_nu rfl rfl))
  have Fy8 : Hid (w8.cell? ⟨w7.heap.size, 8, none⟩ = some (.slice none 0 0)) := Lib.hid (below_some hb8 _ _ _ (cell_nu rfl rfl))
  have b78 : Hid (Below w7.heap.size w7 w8) := Lib.hid (below_step (w := w7) hb8 (below_al (Below.refl _ _))); clear hb8
  have da0 := below_some h9.out _ _ _ Fa0.out
  have da1 := below_some h9.out _ _ _ Fa1.out
  have da2 := below_some h9.out _ _ _ Fa2.out
  have da3 := below_some h9.out _ _ _ Fa3.out
  have da4 := below_some h9.out _ _ _ Fa4.out
  have da5 := below_some h9.out _ _ _ Fa5.out
  have da6 := below_some h9.out _ _ _ Fa6.out
  have da7 := below_some h9.out _ _ _ Fa7.out
  have da8 := below_some h9.out _ _ _ Fa8.out
  (try go_simp); (repeat (first | ((with_reducible refine wp_region_app ?_); simp only [List.cons_append, List.nil_append]) | go_values | go_skip | go_guarded | go_step | go_upon))
  refine (rmany_c a n m hka.out x c hR _ (hL5.out.below (by have h9 := h9.out; repeat (first | (with_reducible assumption) | (with_reducible exact Below.refl _ _) | (with_reducible refine Below.drew ?_) | (with_reducible refine below_drewN' ?_ _) | (with_reducible refine below_al ?_) | ((with_reducible refine below_set ?_ ?_); rotate_left; focus (first | (simp; done) | (simp; omega)))))) (ia5.out.below (by have h9 := h9.out; repeat (first | (with_reducible assumption) | (with_reducible exact Below.refl _ _) | (with_reducible refine Below.drew ?_) | (with_reducible refine below_drewN' ?_ _) | (with_reducible refine below_al ?_) | ((with_reducible refine below_set ?_ ?_); rotate_left; focus (first | (simp; done) | (simp; omega))))))).mono ?_; rintro e w9 ⟨rfl, hb9⟩
  have h9' := Lib.hid (below_step (w := w5) hb9 (by have h9 := h9.out; repeat (first | (with_reducible assumption) | (with_reducible exact Below.refl _ _) | (with_reducible refine Below.drew ?_) | (with_reducible refine below_drewN' ?_ _) | (with_reducible refine below_al ?_) | ((with_reducible refine below_set ?_ ?_); rotate_left; focus (first | (simp; done) | (simp; omega)))))); clear h9; have h9 := h9'; clear h9'
  have k_w9 : w5.heap.size ≤ w9.heap.size := h9.out.size
  have l1_w9 : w.heap.size + 1 < w9.heap.size := by omega
  have l2_w9 : w.heap.size + 1 + 1 < w9.heap.size := by omega
  clear da0 da1 da2 da3 da4 da5 da6 da7 da8
  have b79 : Below w7.heap.size w7 w9 := b78.out.trans (hb9.mono b78.out.size)
  have b69 : Below w6.heap.size w6 w9 := b67.out.trans (b79.mono b67.out.size)
  have dx0 := below_some b79 _ _ _ Fx0.out
  have dy0 := below_some hb9 _ _ _ Fy0.out
  have dx1 := below_some b79 _ _ _ Fx1.out
  have dy1 := below_some hb9 _ _ _ Fy1.out
  have dx2 := below_some b79 _ _ _ Fx2.out
  have dy2 := below_some hb9 _ _ _ Fy2.out
  have dx3 := below_some b79 _ _ _ Fx3.out
  have dy3 := below_some hb9 _ _ _ Fy3.out
  have dx4 := below_some b79 _ _ _ Fx4.out
  have dy4 := below_some hb9 _ _ _ Fy4.out
  have dx5 := below_some b79 _ _ _ Fx5.out
  have dy5 := below_some hb9 _ _ _ Fy5.out
  have dx6 := below_some b79 _ _ _ Fx6.out
  have dy6 := below_some hb9 _ _ _ Fy6.out
  have dx7 := below_some b79 _ _ _ Fx7.out
  have dy7 := below_some hb9 _ _ _ Fy7.out
  have dx8 := below_some b79 _ _ _ Fx8.out
  have dy8 := below_some hb9 _ _ _ Fy8.out
  clear b79 b69 hb9
  (try go_simp); (repeat (first | ((with_reducible refine wp_region_app ?_); simp only [List.cons_append, List.nil_append]) | go_values | go_skip | go_guarded | go_step | go_upon))
  refine (sameN_c _).mono ?_; rintro e w10 ⟨rfl, hb10⟩
  have hB10 : Below w.heap.size w w10 := HB5.out.trans ((below_step (w := w5) hb10 (by have h9 := h9.out; repeat (first | (with_reducible assumption) | (with_reducible exact Below.refl _ _) | (with_reducible refine Below.drew ?_) | (with_reducible refine below_drewN' ?_ _) | (with_reducible refine below_al ?_) | ((with_reducible refine below_set ?_ ?_); rotate_left; focus (first | (simp; done) | (simp; omega)))))).mono HB5.out.size)
  (try go_simp); (repeat (first | ((with_reducible refine wp_region_app ?_); simp only [List.cons_append, List.nil_append]) | go_values | go_skip | go_guarded | go_step | go_upon))
  go_ret
  exact ⟨rfl, hB10⟩
theorem many_code (c : CalP) (a b : Int) : 0 ≤ (many c a b).2 ∧ (many c a b).2 ≤ 4 := by
  unfold many
  split
  · split
    · exact ⟨by decide, by decide⟩
    · split
      · exact ⟨by decide, by decide⟩
      · exact ⟨Int.le_refl _, (by decide : (0 : Int) ≤ 4)⟩
  · exact ⟨by decide, by decide⟩
theorem calUnites_walk (a b : CalP) (n m : Int) (w : World) (hL : Laid w) (hN : AllOff w) (ia : CalIn w a) (ib : CalIn w b) : Calls Tryd.prog 10 #[.agg #[.bool a.o0, .bool a.o1, .bool a.o2, .bool a.o3, .bool a.o4, .bool a.o5, .bool a.o6, .slice a.A a.rs.length a.cR, .slice a.D a.ds.length a.cD, .bool b.o0, .bool b.o1, .bool b.o2, .bool b.o3, .bool b.o4, .bool b.o5, .bool b.o6, .slice b.A b.rs.length b.cR, .slice b.D b.ds.length b.cD, .int .i64 n, .int .i64 m]] w fun e w' => e = .returned (.bool true) ∧ Below w.heap.size w w' := by
  cases fa : a.few
  · exact calUnites_fa a b n m fa w hL hN ia ib
  cases fb : b.few
  · exact calUnites_fb a b n m fa fb w hL hN ia ib
  cases ma : a.may
  · exact calUnites_ma a b n m fa fb ma w hL hN ia ib
  cases mb : b.may
  · exact calUnites_mb a b n m fa fb ma mb w hL hN ia ib
  have f1 := few_len fa; have f2 := few_len fb
  have lr : (a.rs ++ b.rs).length ≤ 1000000 := by rw [List.length_append]; omega
  have ld : (uds a.ds b.ds).length ≤ 1000000 := by have := uds_len a.ds b.ds; omega
  have hcd := many_code a n m
  have sc : IntKind.i64.wrap (many a n m).2 = (many a n m).2 := IntWalk.i64_in _ (by omega)
  have hp : Hid ((a.o0 || b.o0) = (a.o0 || b.o0) ∧ (a.o1 || b.o1) = (a.o1 || b.o1) ∧ (a.o2 || b.o2) = (a.o2 || b.o2) ∧ (a.o3 || b.o3) = (a.o3 || b.o3) ∧ (a.o4 || b.o4) = (a.o4 || b.o4) ∧ (a.o5 || b.o5) = (a.o5 || b.o5) ∧ (a.o6 || b.o6) = (a.o6 || b.o6)) := Lib.hid ⟨rfl, rfl, rfl, rfl, rfl, rfl, rfl⟩
  cases hu : uopen a b
  · by_cases t1 : n < m
    · by_cases t2 : 100 < IntKind.i64.wrap (m - n)
      · by_cases t3 : IntKind.i64.wrap (m - n) ≤ 4000
        · exact calUnites_g4 a b n m fa fb ma mb (decide_eq_true t1) _ rfl (decide_eq_true t2) (decide_eq_true t3) w hL hN ia ib
        · exact calUnites_g3n a b n m fa fb ma mb (decide_eq_true t1) _ rfl (decide_eq_true t2) (decide_eq_false t3) _ _ (Lib.hid rfl) sc (beq_self_eq_true _) (beq_self_eq_true _) hu w hL hN ia ib
      · exact calUnites_g2n a b n m fa fb ma mb (decide_eq_true t1) _ rfl (decide_eq_false t2) _ _ (Lib.hid rfl) sc (beq_self_eq_true _) (beq_self_eq_true _) hu w hL hN ia ib
    · exact calUnites_g1n a b n m fa fb ma mb (decide_eq_false t1) _ _ (Lib.hid rfl) sc (beq_self_eq_true _) (beq_self_eq_true _) hu w hL hN ia ib
  · by_cases t1 : n < m
    · by_cases t2 : 100 < IntKind.i64.wrap (m - n)
      · by_cases t3 : IntKind.i64.wrap (m - n) ≤ 4000
        · exact calUnites_g4 a b n m fa fb ma mb (decide_eq_true t1) _ rfl (decide_eq_true t2) (decide_eq_true t3) w hL hN ia ib
        · exact calUnites_g3y a b n m fa fb ma mb (decide_eq_true t1) _ rfl (decide_eq_true t2) (decide_eq_false t3) _ _ (Lib.hid rfl) sc (beq_self_eq_true _) (beq_self_eq_true _) hu _ _ _ _ _ _ _ hp _ (Lib.hid rfl) _ (Lib.hid rfl) lr ld w hL hN ia ib
      · exact calUnites_g2y a b n m fa fb ma mb (decide_eq_true t1) _ rfl (decide_eq_false t2) _ _ (Lib.hid rfl) sc (beq_self_eq_true _) (beq_self_eq_true _) hu _ _ _ _ _ _ _ hp _ (Lib.hid rfl) _ (Lib.hid rfl) lr ld w hL hN ia ib
    · exact calUnites_g1y a b n m fa fb ma mb (decide_eq_false t1) _ _ (Lib.hid rfl) sc (beq_self_eq_true _) (beq_self_eq_true _) hu _ _ _ _ _ _ _ hp _ (Lib.hid rfl) _ (Lib.hid rfl) lr ld w hL hN ia ib
end Go.Proofs.YtlilffoflkkbdaaDoor
