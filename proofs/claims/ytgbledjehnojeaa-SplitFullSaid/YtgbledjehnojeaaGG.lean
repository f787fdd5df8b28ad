/- Texts that belong together, joined: FourA, FourB, FourC, FourD. No conditions. -/
import Derived.Test.YtgbledjehnojeaaGF
import Derived.Test.YtgbledjehnojeaaGE
/- law14: the last text of a script, the fixed example, what the checks of letters answer. -/
set_option linter.unusedVariables false
set_option linter.unusedSimpArgs false
namespace Go.Proofs.Ytgbledjehnojeaa
open Go.Den

variable {w0 w : World} {Ω : List Ob} {p : Addr} {most : Int} {T : List ET} {i : Nat}

theorem base_Bytes_same {a b : Sl} {xs : List (Ty.int .u8).T} (va : View (.int .u8) w a xs) (vb : View (.int .u8) w b xs) {K : Bool → World → Prop} (h : K true w) : C_base_Bytes a b K w := by
  apply S_base_Bytes
  unfold F_base_Bytes
  refine toStr va (toStr vb ?_)
  have : ((bstr xs).toList == (bstr xs).toList) = true := by simp
  rw [this]; exact h
theorem law14_Plain_spec {x : Int} (s : Sp w0 Ω w) (i : Nat) (hi : Ω[i]? = some (sto p most T)) (hk : 0 ≤ x ∧ x ≤ T.length) (hl : (txt T x).length ≤ 4096) {K : Sl × Bool → World → Prop}
    (h : ∀ sl w', Sp w0 (own (.int .u8) sl (txt T x) :: Ω) w' → K (sl, true) w') : C_law14_Plain (some p) x K w := by
  apply S_law14_Plain
  unfold F_law14_Plain
  obtain ⟨_, _, _, hb0, hb1, hb2, hg⟩ := Sp.entry s i hi
  refine intern_Export_sp s i hi (fun _ sl w1 s => ?_) (fun hno => absurd hk hno)
  refine nilIfc_nil (gd_f rfl (ref11_Plain_spec hg (by omega) hk hl s (fun w' s => s.view 0 rfl) rfl fun s' w2 s => h s' _ (s.pick [0] 2 rfl (by decide))))
/-- the ID is balanced and has these letters -/
theorem law14_is_spec {x : Int} {t : List Int} {d : Int} {want : Sl} (s : Sp w0 Ω w) (i : Nat) (hi : Ω[i]? = some (sto p most T)) (nx : Nd0 T x t d) (hl : t.length ≤ 4096) (hv : ∀ w', Sp w0 Ω w' → View (.int .u8) w' want t) {K : Bool → World → Prop}
    (h : ∀ w', Sp w0 Ω w' → K true w') : C_law14_is (some p) x want K w := by
  apply S_law14_is
  unfold F_law14_is
  refine avl_Balanced_k s i hi ⟨nx.pos, nx.le⟩ fun w1 s => law14_Plain_spec s i hi ⟨nx.pos, nx.le⟩ (by rw [nx.txt]; exact hl) fun sl w2 s => ?_
  rw [nx.txt] at s
  refine gd_t nx.even (nilIfc_nil (gd_t rfl (gd_t rfl (base_Bytes_same (s.view 0 rfl) (hv _ s.pop) (h _ s.pop)))))

/-! ### The last text -/
theorem law14_Last_spec {ids lens txs : Sl} {is : List (Ty.int .i64).T} {sls : List Ty.slice.T} {ts : List (List Int)} (s : Sp w0 Ω w) (i1 i2 i3 : Nat) (h1 : Ω[i1]? = some (own (.int .i64) ids is)) (h2 : Ω[i2]? = some (own (.int .i64) lens (lensT ts))) (h3 : Ω[i3]? = some (own .slice txs sls))
    (hi : is.length = ts.length) (hs : sls.length = ts.length) (hN : ts.length ≤ 1000) {K : Int × Int × Sl × Bool → World → Prop}
    (h : ∀ w', Sp w0 Ω w' → K (is.getLastD (0 : Int), ((ts.getLastD []).length : Int), sls.getLastD (⟨none, 0, 0⟩ : Sl), decide (((ts.getLastD []).length : Int) ≤ 4096)) w') : C_law14_Made_Last (some p, ids, lens, txs) K w := by
  apply S_law14_Made_Last
  unfold F_law14_Made_Last
  have hl := (s.view i1 h1).len
  refine s.allocK fun a1 w1 s => s.lds (x := ids) 0 1 rfl rfl (gd_eq (fun c => ?_) (fun c => ?_))
  · have et : ts = [] := List.eq_nil_of_length_eq_zero (by omega)
    subst et
    have ei : is = [] := List.eq_nil_of_length_eq_zero (by simpa using hi)
    have es : sls = [] := List.eq_nil_of_length_eq_zero (by simpa using hs)
    subst ei es
    exact h _ s.pop
  · obtain ⟨k, hk⟩ : ∃ k, ts.length = k + 1 := ⟨ts.length - 1, by omega⟩
    obtain ⟨y, hy⟩ : ∃ y, is[k]? = some y := ⟨_, List.getElem?_eq_getElem (by omega)⟩
    obtain ⟨t, ht⟩ : ∃ t, ts[k]? = some t := ⟨_, List.getElem?_eq_getElem (by omega)⟩
    obtain ⟨z, hz⟩ : ∃ z, sls[k]? = some z := ⟨_, List.getElem?_eq_getElem (by omega)⟩
    have ht' : (lensT ts)[k]? = some (t.length : Int) := by unfold lensT; rw [List.getElem?_map, ht]; rfl
    have g1 : is.getLastD (0 : Int) = y := by rw [List.getLastD_eq_getLast?, List.getLast?_eq_getElem?, hi, hk, show k + 1 - 1 = k by omega, hy]; rfl
    have g2 : ts.getLastD [] = t := by rw [List.getLastD_eq_getLast?, List.getLast?_eq_getElem?, hk, show k + 1 - 1 = k by omega, ht]; rfl
    have g3 : sls.getLastD (⟨none, 0, 0⟩ : Sl) = z := by rw [List.getLastD_eq_getLast?, List.getLast?_eq_getElem?, hs, hk, show k + 1 - 1 = k by omega, hz]; rfl
    rw [g1, g2, g3] at h
    refine s.lds (x := ids) 0 1 rfl rfl (arith_i64 (by omega) (by omega) (s.drawK fun w2 s => s.lds (x := ids) 0 1 rfl rfl ?_))
    rw [show (ids.len : Int) - 1 = (k : Int) by omega]
    refine (s.view (i1 + 1) h1).idx rfl hy rfl fun q1 hq1 => ⟨_, hq1, s.lds (x := lens) 0 2 rfl rfl ?_⟩
    refine (s.view (i2 + 1) h2).idx rfl ht' rfl fun q2 hq2 => ⟨_, hq2, s.lds (x := txs) 0 3 rfl rfl ?_⟩
    refine (s.view (i3 + 1) h3).idx rfl hz rfl fun q3 hq3 => ⟨_, hq3, s.lds (x := lens) 0 2 rfl rfl ?_⟩
    exact (s.view (i2 + 1) h2).idx rfl ht' rfl fun q4 hq4 => ⟨_, hq4, h _ s.pop⟩
theorem Fine.last {is : List Int} {ts : List (List Int)} (f : Fine T is ts) : ∃ d, Nd0 T (is.getLastD 0) (ts.getLastD []) d := by
  have hl := f.len
  rcases Nat.eq_zero_or_pos ts.length with c | c
  · have et : ts = [] := List.eq_nil_of_length_eq_zero c
    subst et
    have ei : is = [] := List.eq_nil_of_length_eq_zero (by simpa using hl)
    subst ei
    exact ⟨0, Nd0.zero⟩
  · obtain ⟨k, hk⟩ : ∃ k, ts.length = k + 1 := ⟨ts.length - 1, by omega⟩
    obtain ⟨y, hy⟩ : ∃ y, is[k]? = some y := ⟨_, List.getElem?_eq_getElem (by omega)⟩
    obtain ⟨t, ht⟩ : ∃ t, ts[k]? = some t := ⟨_, List.getElem?_eq_getElem (by omega)⟩
    rw [List.getLastD_eq_getLast?, List.getLast?_eq_getElem?, hl, hk, show k + 1 - 1 = k by omega, hy, List.getLastD_eq_getLast?, List.getLast?_eq_getElem?, hk, show k + 1 - 1 = k by omega, ht]
    obtain ⟨d, n⟩ := f.nd k y t hy ht
    exact ⟨d, n.nd0⟩

/-! ### The example -/
theorem letter_one (g : Grow T) {x : Int} {b d : Int} (n : Nd0 T x [b] d) : (eAt T x).1 = (1, b, 0, 0, 0) ∧ 1 ≤ x := by
  have hx : x ≠ 0 := fun e => by subst e; exact absurd n.nil.1 (by simp)
  have nd := n.nd hx
  refine ⟨?_, nd.pos⟩
  rcases nd.parts g with ⟨_, c, hc, e, _⟩ | ⟨l, r, t1, t2, d1, d2, _, _, _, n1, n2, ht, _⟩
  · cases hc; exact e
  · have := (n1.len g).2.1
    have := (n2.len g).2.1
    have := congrArg List.length ht
    rw [List.length_append] at this
    simp at this; omega
theorem letter_same (g : Grow T) {x y : Int} {b d d' : Int} (n : Nd0 T x [b] d) (m : Nd0 T y [b] d') : x = y := by
  obtain ⟨e1, h1⟩ := letter_one g n
  obtain ⟨e2, h2⟩ := letter_one g m
  have f1 := g.find h1 n.le
  have f2 := g.find h2 m.le
  rw [e1] at f1
  rw [e2, f1] at f2
  exact Option.some.inj f2
def ab : List StepT := [(false, 97, 0, 0), (false, 98, 0, 0), (true, 0, 0, 1)]
theorem bt_ab : bt ab = [[97], [98], [97, 98]] := by decide
theorem law14_awake_spec {K : Bool → World → Prop} (h : ∀ w', Ext w0 w' → K true w') : C_law14_awake K w0 := by
  apply S_law14_awake
  unfold F_law14_awake
  refine (Sp.init w0).allocK fun a1 w1 s0 => ?_
  have hv : View yevergreenlaw14_Step w1 ⟨some ⟨a1, 0, none⟩, 3, 3⟩ ab := (s0.lit (ty := yevergreenlaw14_Step) 0 rfl ab 3 rfl rfl).view 0 rfl
  refine law14_Build_spec (Sp.init w1) hv (fun o ho => ?_) fun p ids lens txs is sls T w2 hf hsl hT s => ?_
  · simp only [ab, List.mem_cons, List.not_mem_nil, or_false] at ho
    rcases ho with rfl | rfl | rfl <;> exact ⟨by decide, by decide, by decide⟩
  have e0 := s0.ext
  rw [bt_ab] at hf hsl s
  have hfl := hf.len
  refine s.allocK fun a3 w3 s => s.st0 0 rfl rfl rfl fun w4 s => s.ld0 (ty := yevergreenlaw14_Made) (x := (some p, ids, lens, txs)) 0 rfl rfl ?_
  refine law14_Last_spec s 1 2 3 rfl rfl rfl hfl hsl (by decide) fun w5 s => ?_
  obtain ⟨_, _, _, hb0, hb1, hb2, hg⟩ := Sp.entry s 5 rfl
  obtain ⟨y0, hy0⟩ : ∃ y, is[0]? = some y := ⟨_, List.getElem?_eq_getElem (by simp at hfl; omega)⟩
  obtain ⟨y1, hy1⟩ : ∃ y, is[1]? = some y := ⟨_, List.getElem?_eq_getElem (by simp at hfl; omega)⟩
  obtain ⟨d0, m0⟩ := hf.nd 0 y0 [97] hy0 rfl
  obtain ⟨d1, m1⟩ := hf.nd 1 y1 [98] hy1 rfl
  obtain ⟨d, n⟩ := hf.last
  generalize is.getLastD 0 = x at *
  have n : Nd0 T x [97, 98] d := n
  have hx : x ≠ 0 := fun e => by subst e; exact absurd n.nil.1 (by simp)
  refine ⟨fun b w => b.1 = false ∧ w = w5, gd_f rfl ⟨by simp [hx], rfl⟩, ?_⟩
  rintro ⟨b, _⟩ w6 ⟨hb, rfl⟩ _
  dsimp only at hb ⊢
  subst hb
  refine gd_f rfl (s.ldp (x := some p) 0 0 rfl rfl (split_Split_sp s 5 rfl n (by decide) (by decide) fun T1 xr w7 r1 s => ?_))
  have dd := n.deep hg
  obtain ⟨xa, xb, er⟩ := xr
  rcases r1.out with ⟨e1, e2, e3, q1, q2, _, _⟩ | ⟨_, hbad⟩
  rotate_left
  · omega
  dsimp only at e3 q1 q2
  subst e3
  have q1 : Nd0 T1 xa [97] e1 := q1
  have q2 : Nd0 T1 xb [98] e2 := q2
  have f1 := letter_same r1.grow q1 (m0.ext r1.ext).nd0
  have f2 := letter_same r1.grow q2 (m1.ext r1.ext).nd0
  subst f1 f2
  refine nilIfc_nil (gd_t rfl (s.lds (x := ids) 0 1 rfl rfl ((s.view 1 rfl).idx (n := 0) rfl hy0 rfl fun q3 hq3 => ⟨_, hq3, gd_t (by simp) (s.lds (x := ids) 0 1 rfl rfl ((s.view 1 rfl).idx (n := 1) rfl hy1 rfl fun q4 hq4 => ⟨_, hq4, ?_⟩))⟩)))
  have : (xb == xb) = true := by simp
  rw [this]
  exact h _ (e0.trans s.ext)

/-! ### What all statements begin with -/
/-- the last text of the script, its ID and its letters -/
def Head (w0 : World) (a2 : Nat) (p : Addr) (T : List ET) (x : Int) (t : List Int) (d : Int) (tx : Sl) (w : World) : Prop :=
  Nd0 T x t d ∧ T.length ≤ 23400 ∧ (t.length : Int) ≤ 1152921504606846976 ∧ tx.len = (clipT t).length ∧ tx.len ≤ tx.cap ∧ ∃ ids lens txs : Sl, Sp w0 [cel a2 (cells yevergreenlaw14_Made (some p, ids, lens, txs)), vw (.int .u8) tx (clipT t), sto p 1048576 T] w
theorem law14_head {sl : Sl} {ops : List StepT} (hv : View yevergreenlaw14_Step w0 sl ops) (ho : ∀ o ∈ ops, StepOK o) {K : Bool → World → Prop} {REST : Addr → (Int × Int × Sl × Bool) → World → Prop}
    (h : ∀ (a2 : Nat) (p : Addr) (T : List ET) (x : Int) (t : List Int) (d : Int) (tx : Sl) (w' : World), Head w0 a2 p T x t d tx w' → REST ⟨a2, 0, none⟩ (x, (t.length : Int), tx, decide ((t.length : Int) ≤ 4096)) w') :
    C_law14_Build sl (fun x1 w1 => allocK (.cells #[.pointer none, .slice none 0 0, .slice none 0 0, .slice none 0 0] t_evergreenlaw14_Made) w1 fun a2 w2 => stK w2 a2 (cells yevergreenlaw14_Made x1.1) fun w3 => ∃ x3 : yevergreenlaw14_Made.T, At w3 a2 (cells yevergreenlaw14_Made x3) ∧
      C_law14_Made_Last x3 (fun x4 w4 => JoinP (X := Bool × Unit) (fun R6 => gd (!x1.2) (R6 (true, ()) w4) (C_law14_awake (fun x7 w6 => R6 (!x7, ()) w6) w4)) (fun x5 w5 => ∀ _ : Env, gd x5.1 (K false w5) (REST a2 x4 w5))) w3) w0 := by
  refine law14_Build_spec (Sp.init w0) hv ho fun p ids lens txs is sls T w2 hf hsl hT s => ?_
  have hfl := hf.len
  have hbl : (bt ops).length ≤ 90 := by
    have := btN_len (ops.take 90) 90
    unfold btN at this
    rwa [List.take_take, Nat.min_self] at this
  refine s.allocK fun a2 w3 s => s.st0 0 rfl rfl rfl fun w4 s => s.ld0 (ty := yevergreenlaw14_Made) (x := (some p, ids, lens, txs)) 0 rfl rfl ?_
  generalize bt ops = ts at *
  refine law14_Last_spec s 1 2 3 rfl rfl rfl hfl hsl (by omega) fun w5 s => ?_
  refine ⟨fun x w => x.1 = false ∧ Sp w0 [cel a2 (cells yevergreenlaw14_Made (some p, ids, lens, txs)), own (.int .i64) ids is, own (.int .i64) lens (lensT ts), own .slice txs sls, tvs sls (ts.map clipT), sto p 1048576 T] w, gd_f rfl (law14_awake_spec fun w6 e => ⟨rfl, s.toExt e⟩), ?_⟩
  rintro ⟨b, _⟩ w6 ⟨hb, s⟩ _
  dsimp only at hb ⊢
  subst hb
  obtain ⟨d, n⟩ := hf.last
  refine gd_f rfl (h a2 p T _ _ d _ _ ?_)
  obtain ⟨_, _, _, hb0, hb1, hb2, hg⟩ := Sp.entry s 5 rfl
  have wlx := (hg.at_ n.pos n.le).1.len
  have ln := n.len hg
  refine ⟨n, hT, by omega, ?_⟩
  rcases Nat.eq_zero_or_pos ts.length with c | c
  · have et : ts = [] := List.eq_nil_of_length_eq_zero c
    subst et
    have es : sls = [] := List.eq_nil_of_length_eq_zero (by simpa using hsl)
    subst es
    refine ⟨rfl, Nat.le_refl _, ids, lens, txs, ?_⟩
    have s2 := (s.nil (.int .u8)).freeze 0 rfl
    exact s2.pick [1, 0, 6] 7 rfl (by decide)
  · obtain ⟨k, hk⟩ : ∃ k, ts.length = k + 1 := ⟨ts.length - 1, by omega⟩
    obtain ⟨t, ht⟩ : ∃ t, ts[k]? = some t := ⟨_, List.getElem?_eq_getElem (by omega)⟩
    obtain ⟨z, hz⟩ : ∃ z, sls[k]? = some z := ⟨_, List.getElem?_eq_getElem (by omega)⟩
    have g2 : ts.getLastD [] = t := by rw [List.getLastD_eq_getLast?, List.getLast?_eq_getElem?, hk, show k + 1 - 1 = k by omega, ht]; rfl
    have g3 : sls.getLastD (⟨none, 0, 0⟩ : Sl) = z := by rw [List.getLastD_eq_getLast?, List.getLast?_eq_getElem?, hsl, hk, show k + 1 - 1 = k by omega, hz]; rfl
    have hc : (ts.map clipT)[k]? = some (clipT t) := by rw [List.getElem?_map, ht]; rfl
    obtain ⟨v1, v2⟩ := (Sp.tvs_ s 4 rfl).2 k z (clipT t) hz hc
    rw [g2, g3]
    refine ⟨v1.len, v2, ids, lens, txs, ?_⟩
    have s2 := s.weak 4 rfl (vw (.int .u8) z (clipT t)) (fun B hP _ => ⟨B, ⟨(hP.2 k z _ hz hc).1, (hP.2 k z _ hz hc).2.2⟩, fun _ h => h⟩) (fun _ => rfl)
    exact s2.pick [0, 4, 5] 6 rfl (by decide)
theorem clip_same {t : List Int} (h : (t.length : Int) ≤ 4096) : clipT t = t := if_pos h

end Go.Proofs.Ytgbledjehnojeaa

/- law14: the walks of SplitDivides, SplitSections, SplitRejoins, SplitCreates. -/
set_option linter.unusedVariables false
set_option linter.unusedSimpArgs false
namespace Go.Proofs.Ytgbledjehnojeaa
open Go.Den

variable {w0 w : World} {sl : Sl} {ops : List StepT} {p : Addr} {T : List ET}

theorem law14_offset_any {a n : Int} (hn : 0 ≤ n ∧ n ≤ 1152921504606846976) {K : Int → World → Prop} (h : ∀ r, K r w) : C_law14_offset a n K w :=
  law14_offset_spec hn (fun _ => h a) (fun r _ _ => h r)
theorem is_err {n : Int} (hn : n ≠ 0) {K : Bool → World → Prop} (h : K true w) : C_base_Is (errV n) n K w :=
  base_Is_err hn (by rw [decide_eq_true rfl]; exact h)

theorem law14_SplitDivides_spec {at_ : Int} (hv : View yevergreenlaw14_Step w0 sl ops) (ho : ∀ o ∈ ops, StepOK o) {K : Bool → World → Prop} (h : ∀ w', Ext w0 w' → K true w') : C_law14_SplitDivides sl at_ K w0 := by
  apply S_law14_SplitDivides
  unfold F_law14_SplitDivides
  refine law14_head hv ho fun a2 p T x t d tx w1 H => ?_
  obtain ⟨nx, hT, hl, hxl, hxc, ids, lens, txs, s⟩ := H
  obtain ⟨_, _, _, hb0, hb1, hb2, hg⟩ := Sp.entry s 2 rfl
  have dd := nx.deep hg
  dsimp only
  refine gd_not (gd_dec (fun hk => ?_) (fun _ => h _ s.ext))
  rw [clip_same hk] at s hxl
  refine law14_offset_any ⟨by omega, by omega⟩ fun a => s.ldp (x := some p) 0 0 rfl rfl ?_
  by_cases c : 0 ≤ a ∧ a ≤ t.length
  · refine split_Split_sp s 2 rfl nx c.1 c.2 fun T1 xr w2 r1 s => ?_
    obtain ⟨xa, xb, er⟩ := xr
    rcases r1.out with ⟨e1, e2, e3, q1, q2, _, _⟩ | ⟨_, hbad⟩
    rotate_left
    · omega
    dsimp only at e3 q1 q2
    subst e3
    refine JoinP.inl (gd_f (decide_eq_false (by omega)) ?_)
    intro _
    refine gd_f (decide_eq_false (by omega)) (s.drawK fun w3 s => nilIfc_nil (gd_t rfl (s.ldp (x := some p) 0 0 rfl rfl ?_)))
    refine View.part (ty := .int .u8) (xs := t) (l := 0) (h := a.toNat) hxl (Or.inl ⟨rfl, rfl⟩) (Or.inr (by rw [Int.toNat_of_nonneg c.1])) (by omega) (by omega) hxc fun s16 v16 _ => ?_
    refine law14_is_spec s 2 rfl q1 (by simp only [List.length_take]; omega) (fun w' s => v16 w' (s.vw_ 1 rfl)) fun w4 s => gd_t rfl (s.ldp (x := some p) 0 0 rfl rfl ?_)
    refine View.part (ty := .int .u8) (xs := t) (l := a.toNat) (h := t.length) hxl (Or.inr (by rw [Int.toNat_of_nonneg c.1])) (Or.inl ⟨rfl, rfl⟩) (by omega) (by omega) hxc fun s17 v17 _ => ?_
    exact law14_is_spec s 2 rfl q2 (by simp only [List.length_drop]; omega) (fun w' s => by have := v17 w' (s.vw_ 1 rfl); rwa [List.take_length] at this) fun w5 s => h _ s.ext
  · refine split_Split_off s 2 rfl nx c fun w2 s => JoinP.inl (gd_dec (fun c1 => ?_) (fun c1 => ?_))
    · intro _
      exact gd_t rfl (gd_t rfl (gd_t rfl (is_err (by decide) (h _ s.ext))))
    · intro _
      exact gd_t (decide_eq_true (by omega)) (gd_t rfl (gd_t rfl (is_err (by decide) (h _ s.ext))))

theorem law14_SplitSections_spec {from_ n : Int} (hv : View yevergreenlaw14_Step w0 sl ops) (ho : ∀ o ∈ ops, StepOK o) {K : Bool → World → Prop} (h : ∀ w', Ext w0 w' → K true w') : C_law14_SplitSections sl from_ n K w0 := by
  apply S_law14_SplitSections
  unfold F_law14_SplitSections
  refine law14_head hv ho fun a2 p T x t d tx w1 H => ?_
  obtain ⟨nx, hT, hl, hxl, hxc, ids, lens, txs, s⟩ := H
  obtain ⟨_, _, _, hb0, hb1, hb2, hg⟩ := Sp.entry s 2 rfl
  have dd := nx.deep hg
  dsimp only
  refine gd_not (gd_dec (fun hk => ?_) (fun _ => h _ s.ext))
  rw [clip_same hk] at s hxl
  refine law14_offset_any ⟨by omega, by omega⟩ fun a => law14_offset_any ⟨by omega, by omega⟩ fun b => s.ldp (x := some p) 0 0 rfl rfl ?_
  refine split_Section_sp s 2 rfl nx (fun c T1 xr w2 r1 s => ?_) (fun c w2 s => ?_)
  · obtain ⟨xa, er⟩ := xr
    rcases r1.out with ⟨e3, e, q1, _⟩ | ⟨_, hbad⟩
    rotate_left
    · omega
    dsimp only at e3 q1
    subst e3
    refine ref01_Range_spec ⟨by omega, by omega⟩ ?_
    rw [decide_eq_true c]
    refine gd_f rfl (s.drawK fun w3 s => nilIfc_nil (gd_t rfl (s.ldp (x := some p) 0 0 rfl rfl (arith_i64 (by omega) (by omega) ?_))))
    refine View.part (ty := .int .u8) (xs := t) (l := a.toNat) (h := (a + b).toNat) hxl (Or.inr (by rw [Int.toNat_of_nonneg c.1])) (Or.inr (by rw [Int.toNat_of_nonneg (by omega)])) (by omega) (by omega) hxc fun s16 v16 _ => ?_
    refine law14_is_spec s 2 rfl q1 (by simp only [List.length_take, List.length_drop]; omega) (fun w' s => ?_) fun w4 s => h _ s.ext
    have := v16 w' (s.vw_ 1 rfl)
    rwa [List.drop_take, show (a + b).toNat - a.toNat = b.toNat by omega] at this
  · refine ref01_Range_spec ⟨by omega, by omega⟩ ?_
    rw [decide_eq_false c]
    exact gd_t rfl (gd_t rfl (is_err (by decide) (h _ s.ext)))

theorem law14_SplitRejoins_spec {at_ : Int} (hv : View yevergreenlaw14_Step w0 sl ops) (ho : ∀ o ∈ ops, StepOK o) {K : Bool → World → Prop} (h : ∀ w', Ext w0 w' → K true w') : C_law14_SplitRejoins sl at_ K w0 := by
  apply S_law14_SplitRejoins
  unfold F_law14_SplitRejoins
  refine law14_head hv ho fun a2 p T x t d tx w1 H => ?_
  obtain ⟨nx, hT, hl, hxl, hxc, ids, lens, txs, s⟩ := H
  obtain ⟨_, _, _, hb0, hb1, hb2, hg⟩ := Sp.entry s 2 rfl
  have dd := nx.deep hg
  dsimp only
  refine arith_odd fun n8 ho8 => law14_offset_odd ⟨by omega, by omega⟩ ho8 fun a ha0 ha1 => s.ldp (x := some p) 0 0 rfl rfl ?_
  refine split_Split_sp s 2 rfl nx ha0 ha1 fun T1 xr w2 r1 s => ?_
  obtain ⟨xa, xb, er⟩ := xr
  have hl1 := r1.len
  have g1 := r1.grow
  rcases r1.out with ⟨e1, e2, e3, q1, q2, _, _⟩ | ⟨_, hbad⟩
  rotate_left
  · omega
  dsimp only at e3 q1 q2
  subst e3
  have nx1 := nx.ext r1.ext
  have la := (q1.len g1).1
  have lb := (q2.len g1).1
  rw [List.length_take] at la
  rw [List.length_drop] at lb
  have wa := q1.wt g1
  have wb := q2.wt g1
  have wx := nx1.wt g1
  have oa := (g1.at_ q1.pos q1.le).1
  have ob := (g1.at_ q2.pos q2.le).1
  have hsum : wJoin (eAt T1 xa).2.1 (eAt T1 xb).2.1 = (eAt T1 x).2.1 := by rw [wa, wb, wx, ← wOf_append, List.take_append_drop]
  refine nilIfc_nil (gd_f rfl (s.ldp (x := some p) 0 0 rfl rfl (intern_Weight_k s 2 rfl ⟨q1.pos, q1.le⟩ fun w3 s => s.allocK fun a15 w4 s => s.st0 0 rfl rfl rfl fun w5 s => s.ldp (x := some p) 1 0 rfl rfl ?_)))
  refine intern_Weight_k s 3 rfl ⟨q2.pos, q2.le⟩ fun w6 s => s.allocK fun a18 w7 s => s.st0 0 rfl rfl rfl fun w8 s => s.ldp (x := some p) 2 0 rfl rfl ?_
  refine intern_Weight_k s 4 rfl ⟨nx1.pos, nx1.le⟩ fun w9 s => s.allocK fun a21 w10 s => s.st0 0 rfl rfl rfl fun w11 s => ?_
  refine JoinP.inl (nilIfc_nil (gd_f rfl (nilIfc_nil (gd_f rfl (nilIfc_nil (gd_f rfl (s.ldi (x := (eAt T1 xa).2.1.1) 2 0 rfl rfl (gd_ne (fun c => absurd (by omega) c) (fun _ => s.ldi (x := (eAt T1 xb).2.1.1) 1 0 rfl rfl (arith_i64 (by omega) (by omega) ?_))))))))))
  intro _
  refine gd_f (by simp; omega) (s.ld0 (ty := yapi_Weight) (x := (eAt T1 xa).2.1) 2 rfl rfl (s.ld0 (ty := yapi_Weight) (x := (eAt T1 xb).2.1) 1 rfl rfl ?_))
  refine weight_Join_spec oa ob (by omega) fun w12 e => ?_
  have s := s.toExt e
  rw [hsum]
  refine s.allocK fun a33 w13 s => s.st0 0 rfl rfl rfl fun w14 s => s.ldp (x := some p) 4 0 rfl rfl ?_
  have da := q1.deep g1
  have db := q2.deep g1
  refine avl_Join_sp s 6 rfl q1 q2 (by simp only [List.length_take, List.length_drop]; omega) fun T2 xr w15 r2 s => ?_
  obtain ⟨z, er⟩ := xr
  have hN : joinN xa xb e1 e2 ≤ 259 := by unfold joinN; split <;> omega
  rcases r2.out with ⟨e4, d', q3, _⟩ | ⟨_, hbad⟩
  rotate_left
  · omega
  dsimp only at e4 q3
  subst e4
  rw [List.take_append_drop] at q3
  have wz := q3.wt r2.grow
  rw [← nx1.wt g1] at wz
  refine s.ldp (x := some p) 4 0 rfl rfl (avl_Balanced_k s 6 rfl ⟨q3.pos, q3.le⟩ fun w16 s => s.ldp (x := some p) 4 0 rfl rfl (intern_Weight_k s 6 rfl ⟨q3.pos, q3.le⟩ fun w17 s => s.allocK fun a40 w18 s => s.st0 0 rfl rfl rfl fun w19 s => ?_))
  refine nilIfc_nil (gd_t rfl (nilIfc_nil (gd_t rfl (nilIfc_nil (gd_t rfl (nilIfc_nil (gd_t rfl (gd_t q3.even ?_))))))))
  refine s.ld0 (ty := yapi_Weight) (x := (eAt T1 x).2.1) 1 rfl rfl (s.ld0 (ty := yapi_Weight) (x := (eAt T1 x).2.1) 2 rfl rfl (weight_eql (gd_t (decide_eq_true rfl) ?_)))
  refine s.ld0 (ty := yapi_Weight) (x := (eAt T2 z).2.1) 0 rfl rfl (s.ld0 (ty := yapi_Weight) (x := (eAt T1 x).2.1) 2 rfl rfl (weight_eql ?_))
  rw [decide_eq_true wz]
  exact h _ s.ext

theorem law14_SplitCreates_spec {from_ n : Int} (hv : View yevergreenlaw14_Step w0 sl ops) (ho : ∀ o ∈ ops, StepOK o) {K : Bool → World → Prop} (h : ∀ w', Ext w0 w' → K true w') : C_law14_SplitCreates sl from_ n K w0 := by
  apply S_law14_SplitCreates
  unfold F_law14_SplitCreates
  refine law14_head hv ho fun a2 p T x t d tx w1 H => ?_
  obtain ⟨nx, hT, hl, hxl, hxc, ids, lens, txs, s⟩ := H
  obtain ⟨_, _, _, hb0, hb1, hb2, hg⟩ := Sp.entry s 2 rfl
  have dd := nx.deep hg
  dsimp only
  refine s.ldp (x := some p) 0 0 rfl rfl (intern_Depth_k s 2 rfl ⟨nx.pos, nx.le⟩ fun w2 s => ?_)
  rw [nx.dep]
  refine arith_odd fun n8 ho8 => law14_offset_odd ⟨by omega, by omega⟩ ho8 fun a ha0 ha1 => arith_odd fun n9 ho9 => arith_i64 (by omega) (by omega) (law14_offset_odd ⟨by omega, by omega⟩ ho9 fun b hb0' hb1' => ?_)
  refine s.ldp (x := some p) 0 0 rfl rfl (intern_Len_sp s 2 rfl (s.ldp (x := some p) 0 0 rfl rfl ?_))
  refine split_Split_sp s 2 rfl nx ha0 ha1 fun T1 xr w3 r1 s => ?_
  obtain ⟨xa, xb, er⟩ := xr
  have hl1 := r1.len
  have g1 := r1.grow
  rcases r1.out with ⟨e1, e2, e3, q1, q2, _, _⟩ | ⟨_, hbad⟩
  rotate_left
  · omega
  dsimp only at e3 q1 q2
  subst e3
  have nx1 := nx.ext r1.ext
  refine s.ldp (x := some p) 0 0 rfl rfl (intern_Len_sp s 2 rfl (s.ldp (x := some p) 0 0 rfl rfl (split_Section_sp s 2 rfl nx1 (fun c T2 xr w4 r2 s => ?_) (fun c => absurd ⟨by omega, by omega, by omega⟩ c))))
  obtain ⟨xc, er⟩ := xr
  have hl2 := r2.len
  have hx2 := ext_len r1.ext
  have hx3 := ext_len r2.ext
  rcases r2.out with ⟨e4, e5, q3, _⟩ | ⟨_, hbad⟩
  rotate_left
  · omega
  dsimp only at e4 q3
  subst e4
  have q1' := q1.ext r2.ext
  have q2' := q2.ext r2.ext
  refine s.ldp (x := some p) 0 0 rfl rfl (intern_Len_sp s 2 rfl (s.ldp (x := some p) 0 0 rfl rfl (avl_Balanced_k s 2 rfl ⟨q1'.pos, q1'.le⟩ fun w5 s => s.ldp (x := some p) 0 0 rfl rfl (avl_Balanced_k s 2 rfl ⟨q2'.pos, q2'.le⟩ fun w6 s => s.ldp (x := some p) 0 0 rfl rfl (avl_Balanced_k s 2 rfl ⟨q3.pos, q3.le⟩ fun w7 s => ?_)))))
  rw [q1'.even, q2'.even, q3.even]
  refine JoinP.inl (nilIfc_nil (gd_f rfl (nilIfc_nil (gd_f rfl (nilIfc_nil (gd_f rfl (nilIfc_nil (gd_f rfl (nilIfc_nil (gd_f rfl (nilIfc_nil (gd_f rfl (gd_f rfl (gd_f rfl ?_))))))))))))))
  intro _
  refine gd_f rfl (arith_i64 (by omega) (by omega) (arith_i64 (by omega) (by omega) (arith_i64 (by omega) (by omega) (gd_t (decide_eq_true (by omega)) (arith_i64 (by omega) (by omega) (arith_i64 (by omega) (by omega) (arith_i64 (by omega) (by omega) ?_)))))))
  rw [decide_eq_true (by omega)]
  exact h _ s.ext

end Go.Proofs.Ytgbledjehnojeaa

/- law14: the walks of SplitErrors, SplitCuts, SplitNests. -/
set_option linter.unusedVariables false
set_option linter.unusedSimpArgs false
namespace Go.Proofs.Ytgbledjehnojeaa
open Go.Den

variable {w0 w : World} {Ω : List Ob} {sl : Sl} {ops : List StepT} {p : Addr} {T : List ET} {most : Int}

/-! ### Errors -/
theorem law14_fails_nil {raw a n : Int} (s : Sp w0 Ω w) {K : Bool → World → Prop} (h : ∀ w', Sp w0 Ω w' → K true w') : C_law14_fails none raw a n 5 K w := by
  apply S_law14_fails
  unfold F_law14_fails
  refine split_Split_nil (split_Section_nil (s.allocK fun a3 w1 s => split_Cut_nil ?_))
  exact gd_t rfl (gd_t rfl (gd_t rfl (gd_t rfl (is_err (by decide) (gd_t rfl (is_err (by decide) (gd_t rfl (is_err (by decide) (h _ s.pop)))))))))
theorem law14_fails_bad {raw a m n : Int} (s : Sp w0 Ω w) (i : Nat) (hi : Ω[i]? = some (sto p most T)) (hb : BadId T raw n) {K : Bool → World → Prop} (h : ∀ w', Sp w0 Ω w' → K true w') : C_law14_fails (some p) raw a m n K w := by
  apply S_law14_fails
  unfold F_law14_fails
  have hn : n ≠ 0 := by
    rcases hb with ⟨_, rfl⟩ | ⟨_, _, rfl⟩ <;> decide
  refine split_Split_bad s i hi hb fun w1 s => split_Section_bad s i hi hb fun w2 s => s.allocK fun a3 w3 s => split_Cut_bad s (i + 1) hi hb fun w4 s => ?_
  exact gd_t rfl (gd_t rfl (gd_t rfl (gd_t rfl (is_err hn (gd_t rfl (is_err hn (gd_t rfl (is_err hn (h _ s.pop)))))))))
theorem bad_ext {T' : List ET} (h : T <+: T') {x : Int} (hk : 1 ≤ x ∧ x ≤ T.length) (he : (eAt T x).2.2.2 = false) : BadId T' x 4 := by
  have hl := ext_len h
  exact Or.inr ⟨by omega, by rw [ext_eAt h (by omega) hk.2]; exact he, rfl⟩
theorem pPower_res (g : Grow T) (hm : (T.length : Int) ≤ most) {x k : Int} (hx : 1 ≤ x ∧ x ≤ T.length) (hk : 2 ≤ k) (hl : (eAt T x).2.1.1 * k ≤ 1152921504606846976) :
    Res T most 1 (fun T' y => 1 ≤ y ∧ y ≤ T'.length ∧ (eAt T' y).2.2.2 = false) (pPower T most x k).1 (pPower T most x k).2 := by
  have hp : pPower T most x k = pAdd T most (mkPower T x k) := by
    unfold pPower
    have kx : known T x = true := decide_eq_true (by omega)
    rw [if_neg (by rw [kx]; simp; omega), if_neg (by omega), if_neg (by omega), if_neg (by omega)]
  rw [hp]
  refine pAdd_res g hm (.power g hx.1 hx.2 hk hl) (fun i hi => ?_) (fun hn => ⟨by omega, by simp, by rw [eAt_last]; rfl⟩)
  have hb := lkR_pos hi
  have hr := lkR_rule hi
  cases g.shape hb.1 hb.2 with
  | letter b _ _ e => rw [e] at hr; simp [mkLetter, mkPower] at hr
  | pair l' r' _ _ _ _ _ e => rw [e] at hr; simp [mkPair, mkPower] at hr
  | power x' k' _ _ _ _ e => exact ⟨hb.1, hb.2, by rw [e]; rfl⟩
theorem uneven_pair {l r : Int} (h : (eAt T r).2.2.1 + 1 < (eAt T l).2.2.1) : (mkPair T l r).2.2.2 = false := by
  simp only [mkPair, Bool.and_eq_false_iff, decide_eq_false_iff_not]
  right; omega

theorem law14_SplitErrors_spec {raw a : Int} (hv : View yevergreenlaw14_Step w0 sl ops) (ho : ∀ o ∈ ops, StepOK o) {K : Bool → World → Prop} (h : ∀ w', Ext w0 w' → K true w') : C_law14_SplitErrors sl raw a K w0 := by
  apply S_law14_SplitErrors
  unfold F_law14_SplitErrors
  refine law14_Build_spec (Sp.init w0) hv ho fun p ids lens txs is sls T w2 hf hsl hT s => ?_
  refine s.allocK fun a2 w3 s => s.st0 0 rfl rfl rfl fun w4 s => ?_
  have s : Sp w0 [cel a2 (cells yevergreenlaw14_Made (some p, ids, lens, txs)), sto p 1048576 T] w4 := s.pick [0, 5] 6 rfl (by decide)
  refine ⟨fun x w => x.1 = false ∧ Sp w0 [cel a2 (cells yevergreenlaw14_Made (some p, ids, lens, txs)), sto p 1048576 T] w, gd_f rfl (law14_awake_spec fun w6 e => ⟨rfl, s.toExt e⟩), ?_⟩
  clear s
  rintro ⟨b, _⟩ w6 ⟨hb, s⟩ _
  dsimp only at hb ⊢
  subst hb
  refine gd_f rfl (s.ldp (x := some p) 0 0 rfl rfl (letter_nd s 1 rfl (by decide) fun T1 xr w7 r1 s => ?_))
  obtain ⟨q, er⟩ := xr
  have l1 := r1.len
  rcases r1.out with ⟨e1, n1⟩ | ⟨_, hbad⟩
  rotate_left
  · omega
  dsimp only at e1 n1
  subst e1
  have p1 := n1.pos
  have len1 := n1.len r1.grow
  refine s.ldp (x := some p) 0 0 rfl rfl (intern_Power_sp s 1 rfl (by decide) fun w8 s => ?_)
  have r2 := pPower_res (most := 1048576) r1.grow (by have := r1.cap; omega) ⟨n1.pos, n1.le⟩ (k := 3) (by decide) (by rw [len1.1]; decide)
  generalize pPower T1 1048576 q 3 = T2r at r2 s ⊢
  obtain ⟨T2, bad_, er⟩ := T2r
  dsimp only at r2 s ⊢
  have l2 := r2.len
  rcases r2.out with ⟨e2, b1, b2, b3⟩ | ⟨_, hbad⟩
  rotate_left
  · omega
  dsimp only at e2 b1 b2 b3
  subst e2
  refine JoinP.inl (nilIfc_nil (gd_f rfl (nilIfc_nil ?_)))
  intro _
  have n1' := n1.ext r2.ext
  refine gd_f rfl (s.ldp (x := some p) 0 0 rfl rfl (pair_nd s 1 rfl n1' n1' (by decide) (by decide) (by decide) fun T3 xr w9 r3 s => ?_))
  obtain ⟨low, er⟩ := xr
  have l3 := r3.len
  rcases r3.out with ⟨e3, n3⟩ | ⟨_, hbad⟩
  rotate_left
  · omega
  dsimp only at e3 n3
  subst e3
  have n1'' := n1'.ext r3.ext
  refine s.ldp (x := some p) 0 0 rfl rfl (pair_nd s 1 rfl n3 n1'' (by decide) (by decide) (by decide) fun T4 xr w10 r4 s => ?_)
  obtain ⟨skew, er⟩ := xr
  have l4 := r4.len
  rcases r4.out with ⟨e4, n4⟩ | ⟨_, hbad⟩
  rotate_left
  · omega
  dsimp only at e4 n4
  subst e4
  have n1q := n1''.ext r4.ext
  have len4 := n4.len r4.grow
  have len1q := n1q.len r4.grow
  refine s.ldp (x := some p) 0 0 rfl rfl (intern_Pair_sp s 1 rfl fun w11 s => ?_)
  have r5 := pPair_res (most := 1048576) r4.grow (by have := r4.cap; omega) ⟨n4.pos, n4.le⟩ ⟨n1q.pos, n1q.le⟩ (by rw [len4.1, len1q.1]; decide)
  generalize pPair T4 1048576 skew q = T5r at r5 s ⊢
  obtain ⟨T5, worse, er⟩ := T5r
  dsimp only at r5 s ⊢
  have l5 := r5.len
  rcases r5.out with ⟨e5, c1, c2, c3, _⟩ | ⟨_, hbad⟩
  rotate_left
  · omega
  dsimp only at e5 c1 c2 c3
  subst e5
  refine JoinP.inl (nilIfc_nil (gd_f rfl (nilIfc_nil (gd_f rfl (nilIfc_nil ?_)))))
  intro _
  have hw : BadId T5 worse 4 := bad_ext (List.prefix_refl _) ⟨c1, c2⟩ (by rw [c3]; exact uneven_pair (by rw [n4.dep, n1q.dep]; decide))
  have hbd : BadId T5 bad_ 4 := bad_ext ((r3.ext.trans r4.ext).trans r5.ext) ⟨b1, b2⟩ b3
  refine gd_f rfl (law14_fails_nil s fun w12 s => gd_t rfl (s.ldp (x := some p) 0 0 rfl rfl (law14_fails_bad s 1 rfl hbd fun w13 s => gd_t rfl (s.ldp (x := some p) 0 0 rfl rfl (law14_fails_bad s 1 rfl hw fun w14 s => gd_t rfl (gd_dec (fun c => ?_) (fun c => ?_))))))) 
  · refine s.ldp (x := some p) 0 0 rfl rfl (intern_Len_sp s 1 rfl (gd_dec (fun c' => h _ s.ext) (fun c' => ?_)))
    exact s.ldp (x := some p) 0 0 rfl rfl (law14_fails_bad s 1 rfl (Or.inl ⟨by omega, rfl⟩) fun w15 s => h _ s.ext)
  · exact s.ldp (x := some p) 0 0 rfl rfl (law14_fails_bad s 1 rfl (Or.inl ⟨by omega, rfl⟩) fun w15 s => h _ s.ext)

/-! ### Sections of sections -/
theorem nest_text (t : List Int) (a b c k : Nat) (h : k ≤ b - c) : ((((t.drop a).take b).drop c).take k) = (t.drop (a + c)).take k := by
  rw [List.drop_take, List.drop_drop, List.take_take, Nat.min_eq_left h]

theorem law14_SplitNests_spec {asl : Sl} {ats : List Int} (hv : View yevergreenlaw14_Step w0 sl ops) (ho : ∀ o ∈ ops, StepOK o) (hva : View (.int .i64) w0 asl ats) {K : Bool → World → Prop} (h : ∀ w', Ext w0 w' → K true w') : C_law14_SplitNests sl asl K w0 := by
  apply S_law14_SplitNests
  unfold F_law14_SplitNests
  refine law14_head hv ho fun a2 p T x t d tx w1 H => ?_
  obtain ⟨nx, hT, hl, hxl, hxc, ids, lens, txs, s⟩ := H
  obtain ⟨_, _, _, hb0, hb1, hb2, hg⟩ := Sp.entry s 2 rfl
  have dd := nx.deep hg
  have hal := hva.len
  dsimp only
  refine gd_dec (fun c => h _ s.ext) (fun c => ?_)
  obtain ⟨v0, hv0⟩ : ∃ y, ats[0]? = some y := ⟨_, List.getElem?_eq_getElem (by omega)⟩
  obtain ⟨v1, hv1⟩ : ∃ y, ats[1]? = some y := ⟨_, List.getElem?_eq_getElem (by omega)⟩
  obtain ⟨v2, hv2⟩ : ∃ y, ats[2]? = some y := ⟨_, List.getElem?_eq_getElem (by omega)⟩
  obtain ⟨v3, hv3⟩ : ∃ y, ats[3]? = some y := ⟨_, List.getElem?_eq_getElem (by omega)⟩
  have va := hva.ext s.ext
  refine va.idx (n := 0) rfl hv0 rfl fun q0 hq0 => ⟨_, hq0, arith_odd fun n8 ho8 => law14_offset_odd ⟨by omega, by omega⟩ ho8 fun a ha0 ha1 => ?_⟩
  refine va.idx (n := 1) rfl hv1 rfl fun q1 hq1 => ⟨_, hq1, arith_odd fun n9 ho9 => arith_i64 (by omega) (by omega) (law14_offset_odd ⟨by omega, by omega⟩ ho9 fun b hb0 hb1 => ?_)⟩
  refine va.idx (n := 2) rfl hv2 rfl fun q2 hq2 => ⟨_, hq2, arith_odd fun n10 ho10 => law14_offset_odd ⟨by omega, by omega⟩ ho10 fun c hc0 hc1 => ?_⟩
  refine va.idx (n := 3) rfl hv3 rfl fun q3 hq3 => ⟨_, hq3, arith_odd fun n11 ho11 => arith_i64 (by omega) (by omega) (law14_offset_odd ⟨by omega, by omega⟩ ho11 fun k hk0 hk1 => ?_)⟩
  refine s.ldp (x := some p) 0 0 rfl rfl (split_Section_sp s 2 rfl nx (fun c1 T1 xr w3 r1 s => ?_) (fun c1 => absurd ⟨by omega, by omega, by omega⟩ c1))
  obtain ⟨x1, er⟩ := xr
  have hl1 := r1.len
  rcases r1.out with ⟨e1, d1, m1, hd1⟩ | ⟨_, hbad⟩
  rotate_left
  · omega
  dsimp only at e1 m1
  subst e1
  have len1 : ((t.drop a.toNat).take b.toNat).length = b.toNat := by simp only [List.length_take, List.length_drop]; omega
  have dd1 := m1.deep r1.grow
  refine s.ldp (x := some p) 0 0 rfl rfl (split_Section_sp s 2 rfl m1 (fun c2 T2 xr w4 r2 s => ?_) (fun c2 => absurd ⟨by omega, by omega, by omega⟩ c2))
  obtain ⟨y, er⟩ := xr
  have hl2 := r2.len
  rcases r2.out with ⟨e2, d2, m2, hd2⟩ | ⟨_, hbad⟩
  rotate_left
  · omega
  dsimp only at e2 m2
  subst e2
  have nx2 := (nx.ext r1.ext).ext r2.ext
  refine s.ldp (x := some p) 0 0 rfl rfl (arith_i64 (by omega) (by omega) (split_Section_sp s 2 rfl nx2 (fun c3 T3 xr w5 r3 s => ?_) (fun c3 => absurd ⟨by omega, by omega, by omega⟩ c3)))
  obtain ⟨z, er⟩ := xr
  have hl3 := r3.len
  rcases r3.out with ⟨e3, d3, m3, hd3⟩ | ⟨_, hbad⟩
  rotate_left
  · omega
  dsimp only at e3 m3
  subst e3
  have nx3 := nx2.ext r3.ext
  refine s.ldp (x := some p) 0 0 rfl rfl (arith_i64 (by omega) (by omega) (arith_i64 (by omega) (by omega) (arith_i64 (by omega) (by omega) (arith_i64 (by omega) (by omega) ?_))))
  have hgood : Good [a, a + c, a + c + k, a + b] (t.length : Int) := by
    intro j y hj hy
    rcases j with _ | _ | _ | _ | j
    · simp at hy; subst hy; show (0 : Int) ≤ _ ∧ _; omega
    · simp at hy; subst hy; show a ≤ _ ∧ _; omega
    · simp at hy; subst hy; show a + c ≤ _ ∧ _; omega
    · simp at hy; subst hy; show a + c + k ≤ _ ∧ _; omega
    · simp at hy
  refine s.allocK fun a38 w6 s => split_Cut_sp s 3 rfl nx3 (ats := [a, a + c, a + c + k, a + b]) (fun w' T' s => (s.lit (ty := .int .i64) 0 rfl [a, a + c, a + c + k, a + b] 4 rfl rfl).view 0 rfl) (by simp) (by simp only [List.length_cons, List.length_nil]; omega) (fun _ T4 psl ps w7 hx4 hl4 hq s => ?_) (fun hb => absurd hgood hb)
  have hpl := hq.1
  have hpsl := (s.view 0 rfl).len
  obtain ⟨u, hu⟩ : ∃ y, ps[2]? = some y := ⟨_, List.getElem?_eq_getElem (by rw [hpl]; simp)⟩
  obtain ⟨d4, m4, _⟩ := hq.2 2 u hu
  have hcp : cutP t [a, a + c, a + c + k, a + b] 2 = (t.drop (a + c).toNat).take k.toNat := by
    show (t.drop (a + c).toNat).take ((a + c + k) - (a + c)).toNat = _
    congr 1; omega
  rw [hcp] at m4
  rw [nest_text t _ _ _ _ (by omega), show a.toNat + c.toNat = (a + c).toNat by omega] at m2
  obtain ⟨_, _, _, _, _, _, g4⟩ := Sp.entry s 4 rfl
  have m2' := (m2.ext r3.ext).ext hx4
  have m3' := m3.ext hx4
  have wy := m2'.wt g4
  have wz := m3'.wt g4
  have wu := m4.wt g4
  have ly := (m2'.len g4).1
  simp only [List.length_take, List.length_drop] at ly
  refine JoinP.inl (nilIfc_nil (gd_f rfl (nilIfc_nil (gd_f rfl (nilIfc_nil (gd_f rfl (nilIfc_nil (gd_f rfl ?_))))))))
  intro _
  refine gd_f (by rw [hpsl, hpl]; rfl) (s.ldp (x := some p) 2 0 rfl rfl (intern_Weight_k s 4 rfl ⟨m2'.pos, m2'.le⟩ fun w8 s => s.allocK fun a48 w9 s => s.st0 0 rfl rfl rfl fun w10 s => s.ldp (x := some p) 3 0 rfl rfl (intern_Weight_k s 5 rfl ⟨m3'.pos, m3'.le⟩ fun w11 s => s.allocK fun a51 w12 s => s.st0 0 rfl rfl rfl fun w13 s => ?_)))
  refine ⟨fun x w => ∃ b, x.1 = ⟨b, 0, none⟩ ∧ x.2.1 = .nilIface ∧ Sp w0 [cel b (cells yapi_Weight (eAt T4 u).2.1), cel a51 (cells yapi_Weight (eAt T4 z).2.1), cel a48 (cells yapi_Weight (eAt T4 y).2.1)] w, ?_, ?_⟩
  · refine s.drawK fun w14 s => s.ldp (x := some p) 4 0 rfl rfl ((s.view 2 rfl).idx2 (n := 2) rfl hu rfl fun q5 hq5 => ⟨u, hq5 _ (s.view 2 rfl), ?_, ?_⟩)
    · exact intern_Weight_k s 6 rfl ⟨m4.pos, m4.le⟩ fun w15 s => s.allocK fun a58 w16 s => s.st0 0 rfl rfl rfl fun w17 s => ⟨a58, rfl, rfl, s.pick [0, 1, 2] 8 rfl (by decide)⟩
    · exact s.allocK fun a58 w16 s => ⟨hq5 _ (s.view 3 rfl), s.still 5 0 rfl rfl, intern_Weight_k s 7 rfl ⟨m4.pos, m4.le⟩ fun w15 s => s.st0 0 rfl rfl rfl fun w17 s => ⟨a58, rfl, rfl, s.pick [0, 1, 2] 8 rfl (by decide)⟩⟩
  rintro ⟨_, _, _⟩ w18 ⟨b0, rfl, rfl, s⟩ _
  dsimp only
  refine nilIfc_nil (gd_t rfl (nilIfc_nil (gd_t rfl (nilIfc_nil (gd_t rfl (s.ldi (x := (eAt T4 y).2.1.1) 2 0 rfl rfl (gd_eq (fun _ => ?_) (fun c => absurd (by omega) c))))))))
  refine s.ld0 (ty := yapi_Weight) (x := (eAt T4 y).2.1) 2 rfl rfl (s.ld0 (ty := yapi_Weight) (x := (eAt T4 z).2.1) 1 rfl rfl (weight_eql (gd_t (decide_eq_true (wy.trans wz.symm)) ?_)))
  refine s.ld0 (ty := yapi_Weight) (x := (eAt T4 y).2.1) 2 rfl rfl (s.ld0 (ty := yapi_Weight) (x := (eAt T4 u).2.1) 0 rfl rfl (weight_eql ?_))
  rw [decide_eq_true (wy.trans wu.symm)]
  exact h _ s.ext

end Go.Proofs.Ytgbledjehnojeaa

/- law14: the walks of SplitCuts and SplitFull. -/
set_option linter.unusedVariables false
set_option linter.unusedSimpArgs false
namespace Go.Proofs.Ytgbledjehnojeaa
open Go.Den

variable {w0 w : World} {Ω : List Ob} {sl : Sl} {ops : List StepT} {p : Addr} {T : List ET} {most : Int}

theorem u16_range {n : Int} (h : (Lit.int .u16 n).wf = true) : 0 ≤ n ∧ n < 65536 := by
  have : 0 ≤ n ∧ n ≤ 65535 := by simpa [Lit.wf, IntKind.min, IntKind.max, IntKind.signed, IntKind.bits] using h
  omega

/-! ### Parts of a text -/
def Pieces (tx : Sl) (t ats : List Int) (n : Nat) (sls : List Ty.slice.T) : Prop :=
  sls.length = n ∧ ∀ (k : Nat) (s : Sl), sls[k]? = some s → ∀ w, View (.int .u8) w tx t → View (.int .u8) w s (cutP t ats k)
theorem Pieces.snoc {tx z : Sl} {t ats : List Int} {n : Nat} {sls : List Ty.slice.T} (q : Pieces tx t ats n sls) (hz : ∀ w, View (.int .u8) w tx t → View (.int .u8) w z (cutP t ats n)) : Pieces tx t ats (n + 1) (sls ++ [z]) := by
  have hl := q.1
  refine ⟨by simp [hl], fun k y hk => ?_⟩
  rcases Nat.lt_or_ge k sls.length with c | c
  · rw [List.getElem?_append_left c] at hk
    exact q.2 k y hk
  · rw [List.getElem?_append_right c] at hk
    have e0 : k - sls.length = 0 := by
      have := (List.getElem?_eq_some_iff.1 hk).1
      simp at this; omega
    rw [e0] at hk
    simp at hk
    subst hk
    rw [show k = n by omega]
    exact hz
theorem ref14_Parts_spec {tx asl : Sl} {t ats : List Int} (s : Sp w0 Ω w) (hl : tx.len = t.length) (hc : tx.len ≤ tx.cap) (hL : (t.length : Int) ≤ 1152921504606846976) (hv : ∀ w', Sp w0 Ω w' → View (.int .i64) w' asl ats) (hN : ats.length ≤ 1000000) {K : Sl × Bool → World → Prop}
    (h1 : Good ats t.length → ∀ sl sls w', Pieces tx t ats (ats.length + 1) sls → Sp w0 (own .slice sl sls :: Ω) w' → K (sl, true) w')
    (h2 : ¬ Good ats t.length → ∀ w', Sp w0 Ω w' → K (⟨none, 0, 0⟩, false) w') : C_ref14_Parts tx asl K w := by
  apply S_ref14_Parts
  unfold F_ref14_Parts
  have hal := (hv _ s).len
  refine loop_by (fun x => x.2.2.1) ats.length (fun n x w => GoodN ats t.length n ∧ x.2.1 = bnd ats t.length n ∧ ∃ sls, Pieces tx t ats n sls ∧ Sp w0 (own .slice x.1 sls :: Ω) w) rfl ⟨fun k y hk _ => absurd hk (by omega), rfl, [], ⟨rfl, fun k y hk => by simp at hk⟩, s.nil .slice⟩ ?_
  rintro n ⟨out, last, z, _⟩ w2 hn hz ⟨hgood, hlast, sls, hp, s⟩ _
  dsimp only at hz hlast s ⊢
  subst hz hlast
  have hpl := hp.1
  have hm : 0 ≤ bnd ats t.length n ∧ bnd ats t.length n ≤ t.length := by
    rcases n with _ | n
    · exact ⟨Int.le_refl _, by rw [bnd_zero]; omega⟩
    · have hy := List.getElem?_eq_getElem (show n < ats.length by omega)
      have g := hgood n _ (by omega) hy
      rw [bnd_at hy]
      have : ∀ k, k ≤ n → 0 ≤ bnd ats t.length k := by
        intro k
        induction k with
        | zero => intro _; exact Int.le_refl _
        | succ k ih =>
          intro hk
          have hy2 := List.getElem?_eq_getElem (show k < ats.length by omega)
          have g2 := hgood k _ (by omega) hy2
          have := ih (by omega)
          rw [bnd_at hy2]; omega
      have := this n (by omega)
      omega
  refine gd_dec (fun hlt => ?_) (fun hge => ?_)
  · have hn' : n < ats.length := by omega
    obtain ⟨y, hy⟩ : ∃ y, ats[n]? = some y := ⟨_, List.getElem?_eq_getElem hn'⟩
    have va := hv _ s.pop
    refine JoinP.inl (va.idx rfl hy rfl fun q hq => ⟨y, hq, gd_dec (fun c => ?_) (fun c => va.idx rfl hy rfl fun q2 hq2 => ⟨y, hq2, ?_⟩)⟩)
    · intro _
      exact gd_t rfl (h2 (Good.no hy (Or.inl (by omega))) _ s.pop)
    · intro _
      refine gd_dec (fun c2 => h2 (Good.no hy (Or.inr (by omega))) _ s.pop) (fun c2 => va.idx rfl hy rfl fun q3 hq3 => ⟨y, hq3, ?_⟩)
      refine View.part (ty := .int .u8) (xs := t) (l := (bnd ats t.length n).toNat) (h := y.toNat) hl (Or.inr (by rw [Int.toNat_of_nonneg hm.1])) (Or.inr (by rw [Int.toNat_of_nonneg (by omega)])) (by omega) (by omega) hc fun s11 v11 _ => ?_
      refine s.allocK fun a12 w3 s => s.app 1 rfl ((s.lit (ty := .slice) 0 rfl [s11] 1 rfl rfl).view 0 rfl) (by simp only [List.length_cons, List.length_nil]; omega) fun s13 w4 s => ?_
      refine (hv _ (s.drop 2)).idx rfl hy rfl fun q4 hq4 => ⟨y, hq4, arith_i64 (by omega) (by omega) (loop_nx hn' ⟨hgood.step hy (by omega) (by omega), (bnd_at hy).symm, sls ++ [s11], hp.snoc fun w' v => ?_, s.pop⟩)⟩
      have := v11 w' v
      rw [List.drop_take] at this
      unfold cutP
      rw [bnd_at hy, show (y - bnd ats t.length n).toNat = y.toNat - (bnd ats t.length n).toNat by omega]
      exact this
  · have en : n = ats.length := by omega
    subst en
    refine View.part (ty := .int .u8) (xs := t) (l := (bnd ats t.length ats.length).toNat) (h := t.length) hl (Or.inr (by rw [Int.toNat_of_nonneg hm.1])) (Or.inl ⟨rfl, rfl⟩) (by omega) (by omega) hc fun s17 v17 _ => ?_
    refine s.allocK fun a18 w3 s => s.app 1 rfl ((s.lit (ty := .slice) 0 rfl [s17] 1 rfl rfl).view 0 rfl) (by simp only [List.length_cons, List.length_nil]; omega) fun s19 w4 s => h1 hgood s19 (sls ++ [s17]) _ (hp.snoc fun w' v => ?_) s.pop
    have := v17 w' v
    rw [List.take_length] at this
    unfold cutP
    rw [bnd_end, List.take_of_length_le (by simp only [List.length_drop]; omega)]
    exact this

theorem law14_SplitCuts_spec {asl : Sl} {as_ : List Int} (hv : View yevergreenlaw14_Step w0 sl ops) (ho : ∀ o ∈ ops, StepOK o) (hva : View (.int .i64) w0 asl as_) {K : Bool → World → Prop} (h : ∀ w', Ext w0 w' → K true w') : C_law14_SplitCuts sl asl K w0 := by
  apply S_law14_SplitCuts
  unfold F_law14_SplitCuts
  refine law14_head hv ho fun a2 p T x t d tx w1 H => ?_
  obtain ⟨nx, hT, hl, hxl, hxc, ids, lens, txs, s⟩ := H
  obtain ⟨_, _, _, hb0, hb1, hb2, hg⟩ := Sp.entry s 2 rfl
  have dd := nx.deep hg
  have hal := hva.len
  dsimp only
  refine JoinP.inl (gd_not (gd_dec (fun hk => ?_) (fun _ => ?_)))
  rotate_left
  · intro _
    exact gd_t rfl (h _ s.ext)
  intro _
  refine gd_dec (fun _ => h _ s.ext) (fun h20 => ?_)
  rw [clip_same hk] at s hxl
  refine loop_by (fun x => x.2.1) as_.length (fun n x w => ∃ ofs : List (Ty.int .i64).T, ofs.length = n ∧ Sp w0 [own (.int .i64) x.1 ofs, cel a2 (cells yevergreenlaw14_Made (some p, ids, lens, txs)), vw (.int .u8) tx t, sto p 1048576 T] w) rfl ⟨[], rfl, s.nil (.int .i64)⟩ ?_
  clear s
  rintro n ⟨osl, z, _⟩ w2 hn hz ⟨ofs, hol, s⟩ _
  dsimp only at hz s ⊢
  subst hz
  refine gd_dec (fun hlt => ?_) (fun hge => ?_)
  · have hn' : n < as_.length := by omega
    refine (hva.ext s.ext).idx rfl (List.getElem?_eq_getElem hn') rfl fun q hq => ⟨_, hq, law14_offset_any ⟨by omega, by omega⟩ fun r => ?_⟩
    exact s.allocK fun a15 w3 s => s.app 1 rfl ((s.lit (ty := .int .i64) 0 rfl [r] 1 rfl rfl).view 0 rfl) (by simp only [List.length_cons, List.length_nil]; omega) fun s16 w4 s => arith_i64 (by omega) (by omega) (loop_nx hn' ⟨ofs ++ [r], by simp [hol], s.pop⟩)
  have hoN : ofs.length ≤ 20 := by omega
  have hmul : 14 * d * ((ofs.length : Int) + 1) ≤ 1204 * 21 := by
    have h1 : 14 * d * ((ofs.length : Int) + 1) ≤ 1204 * ((ofs.length : Int) + 1) := Int.mul_le_mul_of_nonneg_right (by omega) (by omega)
    omega
  refine ref14_Parts_spec s hxl hxc hl (fun w' s => s.view 0 rfl) (by omega) (fun hgood psl sls w3 hp s => ?_) (fun hbad w3 s => ?_)
  · have hsl := hp.1
    have hspl := (s.view 0 rfl).len
    refine s.drawK fun w4 s => s.ldp (x := some p) 2 0 rfl rfl (s.allocK fun a20 w5 s => ⟨s.still 3 0 rfl rfl, ?_⟩)
    refine (s.lit (ty := .int .i64) 0 rfl [] 0 rfl rfl).app 0 rfl (s.view 2 rfl) (by simp only [List.length_nil]; omega) fun s21 w6 s => ⟨s.still 3 0 rfl rfl, ?_⟩
    refine split_Cut_sp s 5 rfl nx (fun w' T' s => s.view 0 rfl) (by simpa using (by omega : ofs.length ≤ 1000000)) (by simp only [List.nil_append]; omega) (fun _ T4 isl ps w7 hx4 hl4 hq s => ?_) (fun hb => absurd hgood hb)
    simp only [List.nil_append] at hq
    have hpl := hq.1
    have hpsl := (s.view 0 rfl).len
    refine gd_f rfl (JoinP.inl (nilIfc_nil (gd_f rfl ?_)))
    intro _
    refine gd_f (by simp; omega) ?_
    have s : Sp w0 [own (.int .i64) isl ps, own .slice psl sls, cel a2 (cells yevergreenlaw14_Made (some p, ids, lens, txs)), vw (.int .u8) tx t, sto p 1048576 T4] w7 := s.pick [0, 2, 4, 5, 6] 7 rfl (by decide)
    refine loop_by (fun x => x.1) ps.length (fun n x w => Sp w0 [own (.int .i64) isl ps, own .slice psl sls, cel a2 (cells yevergreenlaw14_Made (some p, ids, lens, txs)), vw (.int .u8) tx t, sto p 1048576 T4] w) rfl s ?_
    clear s
    rintro m ⟨z, _⟩ w8 hm hz s _
    dsimp only at hz ⊢
    subst hz
    refine gd_dec (fun hlt => ?_) (fun hge => h _ s.ext)
    have hm' : m < ps.length := by omega
    obtain ⟨y, hy⟩ : ∃ y, ps[m]? = some y := ⟨_, List.getElem?_eq_getElem hm'⟩
    obtain ⟨z, hz⟩ : ∃ y, sls[m]? = some y := ⟨_, List.getElem?_eq_getElem (by omega)⟩
    obtain ⟨e, ne, _⟩ := hq.2 m y hy
    refine s.drawK fun w9 s => s.ldp (x := some p) 2 0 rfl rfl ((s.view 0 rfl).idx rfl hy rfl fun q1 hq1 => ⟨_, hq1, (s.view 1 rfl).idx rfl hz rfl fun q2 hq2 => ⟨_, hq2, ?_⟩⟩)
    refine law14_is_spec s 4 rfl ne (by unfold cutP; simp only [List.length_take, List.length_drop]; omega) (fun w' s => hp.2 m z hz _ (s.vw_ 3 rfl)) fun w10 s => gd_f rfl (arith_i64 (by omega) (by omega) (loop_nx hm' s))
  · refine s.drawK fun w4 s => s.ldp (x := some p) 1 0 rfl rfl (s.allocK fun a20 w5 s => ⟨s.still 2 0 rfl rfl, ?_⟩)
    refine (s.lit (ty := .int .i64) 0 rfl [] 0 rfl rfl).app 0 rfl (s.view 1 rfl) (by simp only [List.length_nil]; omega) fun s21 w6 s => ⟨s.still 2 0 rfl rfl, ?_⟩
    refine split_Cut_sp s 4 rfl nx (fun w' T' s => s.view 0 rfl) (by simpa using (by omega : ofs.length ≤ 1000000)) (by simp only [List.nil_append]; omega) (fun hg2 => absurd (by simpa using hg2) hbad) (fun _ w7 s => ?_)
    exact gd_t rfl (gd_t rfl (is_err (by decide) (h _ s.ext)))

/-! ### Copies -/
theorem txt_copy {ids : List Int} (g : Grow T) (hc : Closed T ids) : ∀ (k : Nat) (y : Int), ids[k]? = some y → txt (copy T ids) ((k : Int) + 1) = txt T y := by
  intro k
  induction k using Nat.strongRecOn with
  | ind k ih =>
    intro y hk
    have gc := copy_grow g hc
    have he := eAt_copy (T := T) hk
    have hkl := (List.getElem?_eq_some_iff.1 hk).1
    have hcl := copy_len (T := T) (ids := ids)
    have tc := gc.txt (id := (k : Int) + 1) (by omega) (by omega)
    cases gr_of g hc hk with
    | letter b h1 h2 e _ ht =>
      rw [e] at he
      cases tc with
      | letter c _ _ e' ht' =>
        rw [he] at e'
        have : b = c := congrArg (fun x : ET => x.1.2.1) e'
        subst this
        rw [ht', ht]
      | pair l r _ _ _ _ _ e' _ => rw [he] at e'; have : (1 : Int) = 2 := congrArg (fun x : ET => x.1.1) e'; omega
      | power x k' _ _ _ _ e' _ => rw [he] at e'; have : (1 : Int) = 3 := congrArg (fun x : ET => x.1.1) e'; omega
    | pair l r jl jr h1 h2 h3 h4 e _ _ ht =>
      rw [e] at he
      cases tc with
      | letter c _ _ e' ht' => rw [he] at e'; have : (2 : Int) = 1 := congrArg (fun x : ET => x.1.1) e'; omega
      | pair l' r' _ _ _ _ _ e' ht' =>
        rw [he] at e'
        have a1 : (jl : Int) + 1 = l' := congrArg (fun x : ET => x.1.2.2.1) e'
        have a2 : (jr : Int) + 1 = r' := congrArg (fun x : ET => x.1.2.2.2.1) e'
        subst a1 a2
        rw [ht', ht, ih jl h1 l h3, ih jr h2 r h4]
      | power x k' _ _ _ _ e' _ => rw [he] at e'; have : (2 : Int) = 3 := congrArg (fun x : ET => x.1.1) e'; omega
    | power x m j h1 h3 h2 e _ _ ht =>
      rw [e] at he
      cases tc with
      | letter c _ _ e' ht' => rw [he] at e'; have : (3 : Int) = 1 := congrArg (fun x : ET => x.1.1) e'; omega
      | pair l r _ _ _ _ _ e' _ => rw [he] at e'; have : (3 : Int) = 2 := congrArg (fun x : ET => x.1.1) e'; omega
      | power x' k' _ _ _ _ e' ht' =>
        rw [he] at e'
        have a1 : (j : Int) + 1 = x' := congrArg (fun x : ET => x.1.2.2.1) e'
        have a2 : m = k' := congrArg (fun x : ET => x.1.2.2.2.2) e'
        subst a1 a2
        rw [ht', ht, ih j h1 x h3]
theorem Nd0.copy {x : Int} {t : List Int} {d : Int} (g : Grow T) (n : Nd0 T x t d) : Nd0 (Ytgbledjehnojeaa.copy T (rlist T [x])) ((rlist T [x]).length : Int) t d := by
  by_cases c : x = 0
  · subst c
    obtain ⟨rfl, rfl⟩ := n.nil
    rw [rlist_zero]
    exact Nd0.zero
  have hp := n.pos
  obtain ⟨k, e1, e2⟩ := rlist_last g (id := x) (by omega) n.le
  have hS : ∀ y ∈ [x], 0 ≤ y ∧ y ≤ (T.length : Int) := fun y hy => by simp at hy; subst hy; exact ⟨n.pos, n.le⟩
  have hc := rlist_closed g hS
  have hcl := copy_len (T := T) (ids := rlist T [x])
  have he := eAt_copy (T := T) e2
  have ht := txt_copy g hc k x e2
  rw [e1]
  rw [show (((k + 1 : Nat)) : Int) = (k : Int) + 1 by omega]
  exact ⟨by omega, by omega, ht.trans n.txt, by rw [he]; exact n.dep, by rw [he]; exact n.even⟩

theorem law14_SplitFull_spec {a room : Int} (hv : View yevergreenlaw14_Step w0 sl ops) (ho : ∀ o ∈ ops, StepOK o) (hr : 0 ≤ room ∧ room < 65536) {K : Bool → World → Prop} (h : ∀ w', Ext w0 w' → K true w') : C_law14_SplitFull sl a room K w0 := by
  apply S_law14_SplitFull
  unfold F_law14_SplitFull
  refine law14_head hv ho fun a2 p T x t d tx w1 H => ?_
  obtain ⟨nx, hT, hl, hxl, hxc, ids', lens, txs, s⟩ := H
  obtain ⟨_, _, _, hb0, hb1, hb2, hg⟩ := Sp.entry s 2 rfl
  have dd := nx.deep hg
  dsimp only
  refine gd_not (gd_dec (fun hk => ?_) (fun _ => h _ s.ext))
  rw [clip_same hk] at s hxl
  have hS : ∀ y ∈ [x], 0 ≤ y ∧ y ≤ (T.length : Int) := fun y hy => by simp at hy; subst hy; exact ⟨nx.pos, nx.le⟩
  have hc := rlist_closed hg hS
  have hrl := rlist_len T [x]
  have nc := nx.copy hg
  have hel := exp_len T (rlist T [x])
  have hro := ruleOK_exp hg hc
  refine s.ldp (x := some p) 0 0 rfl rfl (intern_Export_sp s 2 rfl (fun _ sl1 w2 s => ?_) (fun hno => absurd ⟨nx.pos, nx.le⟩ hno))
  generalize rlist T [x] = ids at *
  have hsl1 := (s.view 0 rfl).len
  have hsl2 : sl1.len = ids.length := hsl1.trans hel
  refine s.ldp (x := some p) 1 0 rfl rfl (intern_Depth_k s 3 rfl ⟨nx.pos, nx.le⟩ fun w3 s => ?_)
  rw [nx.dep]
  refine JoinP.inl (nilIfc_nil (gd_f rfl (nilIfc_nil ?_)))
  intro _
  refine gd_f rfl (arith_i64 (by omega) (by omega) (arith_i64 (by omega) (by omega) (arith_i64 (by omega) (by omega) (arith_i64 (by omega) (by omega) ⟨by omega, letZ_mk ?_⟩))))
  rw [Int.tmod_eq_emod_of_nonneg hr.1]
  have hsp0 := Int.emod_nonneg room (show 16 * (d + 1) + 2 ≠ 0 by omega)
  have hsp1 := Int.emod_lt_of_pos room (show 0 < 16 * (d + 1) + 2 by omega)
  generalize room % (16 * (d + 1) + 2) = spare at *
  dsimp only
  refine arith_i64 (by omega) (by omega) (intern_New_sp s fun q w4 s => ?_)
  rw [if_neg (by omega), if_neg (by omega)] at s
  refine intern_Import_sp hro (by omega) s 0 rfl (fun w' Ω' s => s.view (Ω'.length + 1) (by rw [List.getElem?_append_right (by omega)]; simp)) (fun w' Ω' T' s => s.view (Ω'.length + 1) (by rw [List.getElem?_append_right (by omega)]; simp)) fun w5 s => ?_
  rw [pImport_copy hg hc (by omega)] at s ⊢
  refine JoinP.inl (gd_f rfl (nilIfc_nil ?_))
  intro _
  have hcl := copy_len (T := T) (ids := ids)
  refine gd_f rfl (arith_odd fun n8 ho8 => law14_offset_odd ⟨by omega, by omega⟩ ho8 fun b ha0 ha1 => ?_)
  have s : Sp w0 [sto q ((sl1.len : Int) + spare) (Ytgbledjehnojeaa.copy T ids), own yapi_Rule sl1 (exp T ids), cel a2 (cells yevergreenlaw14_Made (some p, ids', lens, txs)), vw (.int .u8) tx t, sto p 1048576 T] w5 := s
  refine split_Split_sp s 0 rfl nc ha0 ha1 fun T1 xr w6 r1 s => ?_
  obtain ⟨xa, xb, er⟩ := xr
  have hl1 := r1.len
  have hcap := r1.cap
  have hx1 := ext_len r1.ext
  rcases r1.out with ⟨e1, e2, e3, q1, q2, _, _⟩ | ⟨hr1, hbad⟩
  · dsimp only at e3 q1 q2
    subst e3
    refine base_Is_nil (by decide) (gd_f rfl (nilIfc_nil (gd_t rfl ?_)))
    refine View.part (ty := .int .u8) (xs := t) (l := 0) (h := b.toNat) hxl (Or.inl ⟨rfl, rfl⟩) (Or.inr (by rw [Int.toNat_of_nonneg ha0])) (by omega) (by omega) hxc fun s16 v16 _ => ?_
    refine law14_is_spec s 0 rfl q1 (by simp only [List.length_take]; omega) (fun w' s => v16 w' (s.vw_ 3 rfl)) fun w7 s => gd_t rfl ?_
    refine View.part (ty := .int .u8) (xs := t) (l := b.toNat) (h := t.length) hxl (Or.inr (by rw [Int.toNat_of_nonneg ha0])) (Or.inl ⟨rfl, rfl⟩) (by omega) (by omega) hxc fun s17 v17 _ => ?_
    refine law14_is_spec s 0 rfl q2 (by simp only [List.length_drop]; omega) (fun w' s => by have := v17 w' (s.vw_ 3 rfl); rwa [List.take_length] at this) fun w8 s => gd_t rfl (intern_Len_sp s 0 rfl (arith_i64 (by omega) (by omega) ?_))
    rw [decide_eq_true (by omega)]
    exact h _ s.ext
  · obtain ⟨rfl, rfl, rfl⟩ : xa = 0 ∧ xb = 0 ∧ er = errV 3 := by simpa using hr1
    refine is_err (by decide) (gd_t rfl (gd_t rfl (gd_t rfl (arith_i64 (by omega) (by omega) (arith_i64 (by omega) (by omega) (gd_t (decide_eq_true (by omega)) ?_))))))
    exact law14_is_spec s 0 rfl (nc.ext r1.ext) (by omega) (fun w' s => s.vw_ 3 rfl) fun w7 s => h _ s.ext

end Go.Proofs.Ytgbledjehnojeaa
