/- Texts that belong together, joined: Made, MadeB, Bld, SplitC. No conditions. -/
import Derived.Test.YtgbledjehnojeaaGD
import Derived.Test.YtgbledjehnojeaaGE
/- Texts side by side, read only. -/
set_option linter.unusedVariables false
set_option linter.unusedSimpArgs false
namespace Go.Proofs.Ytgbledjehnojeaa
open Go.Den

variable {w0 w : World} {Ω : List Ob} {j : Nat}

/-- many texts, each by its slice -/
def tvs (ts : List Sl) (vs : List (List Int)) : Ob :=
  ⟨true, fun B w => ts.length = vs.length ∧ ∀ (k : Nat) (s : Sl) (v : List Int), ts[k]? = some s → vs[k]? = some v → View (.int .u8) w s v ∧ s.len ≤ s.cap ∧ ∀ b, blk s b → B b,
    fun h f hB => ⟨h.1, fun k s v h1 h2 => ⟨(h.2 k s v h1 h2).1.fr f fun b hb => hB b ((h.2 k s v h1 h2).2.2 b hb), (h.2 k s v h1 h2).2⟩⟩⟩
theorem Sp.tvs_ {ts : List Sl} {vs : List (List Int)} (s : Sp w0 Ω w) (j : Nat) (h : Ω[j]? = some (tvs ts vs)) : ts.length = vs.length ∧ ∀ (k : Nat) (s : Sl) (v : List Int), ts[k]? = some s → vs[k]? = some v → View (.int .u8) w s v ∧ s.len ≤ s.cap := by
  obtain ⟨B, h, _⟩ := s.get j h
  exact ⟨h.1, fun k s v h1 h2 => ⟨(h.2 k s v h1 h2).1, (h.2 k s v h1 h2).2.1⟩⟩
theorem Sp.tvs0 (s : Sp w0 Ω w) : Sp w0 (tvs [] [] :: Ω) w :=
  s.push (B := fun _ => False) (.refl _ _) ⟨rfl, fun k s v h1 _ => by simp at h1⟩ (fun _ h => h.elim)
theorem Sp.tvs_add {ts : List Sl} {vs : List (List Int)} {sl : Sl} {v : List Int} (s : Sp w0 (own (.int .u8) sl v :: Ω) w) (j : Nat) (h : Ω[j]? = some (tvs ts vs)) : Sp w0 (tvs (ts ++ [sl]) (vs ++ [v]) :: Ω) w := by
  have s2 : Sp w0 (tvs ts vs :: own (.int .u8) sl v :: Ω) w := s.dup (j + 1) h rfl
  refine s2.fold 2 _ (Or.inl rfl) fun f hP _ => ?_
  have o1 := (hP 0 _ (by decide) rfl).1
  have o2 := (hP 1 _ (by decide) rfl).1
  refine ⟨by simp [o1.1], fun k s' v' h1 h2 => ?_⟩
  have hl := o1.1
  rcases Nat.lt_or_ge k ts.length with hk | hk
  · rw [List.getElem?_append_left hk] at h1
    rw [List.getElem?_append_left (by omega)] at h2
    obtain ⟨a, b, c⟩ := o1.2 k s' v' h1 h2
    exact ⟨a, b, fun x hx => ⟨0, by decide, by simp, c x hx⟩⟩
  · rw [List.getElem?_append_right hk] at h1
    rw [List.getElem?_append_right (by omega)] at h2
    have e : k - ts.length = 0 := by
      have := (List.getElem?_eq_some_iff.1 h1).1
      simp at this; omega
    rw [e] at h1
    rw [show k - vs.length = 0 by omega] at h2
    simp at h1 h2
    subst h1 h2
    exact ⟨o2.1.view, o2.1.cap, fun x hx => ⟨1, by decide, by simp, o2.2 x hx⟩⟩

end Go.Proofs.Ytgbledjehnojeaa

/- Build of law14: the texts that a script makes. The walks of its orders of evaluation are printed by wip/gen/walk14.py. -/
set_option linter.unusedVariables false
set_option linter.unusedSimpArgs false
namespace Go.Proofs.Ytgbledjehnojeaa
open Go.Den

variable {w0 w : World} {Ω : List Ob} {most : Int} {T : List ET} {i : Nat} {p : Addr}

abbrev StepT := Bool × Int × Int × Int
def sJoin (o : StepT) : Bool := o.1
def sLet (o : StepT) : Int := o.2.1
def sA (o : StepT) : Int := o.2.2.1
def sB (o : StepT) : Int := o.2.2.2
structure StepOK (o : StepT) : Prop where
  l : 0 ≤ sLet o ∧ sLet o < 256
  a : 0 ≤ sA o ∧ sA o < 256
  b : 0 ≤ sB o ∧ sB o < 256
theorem stepOK_of {o : StepT} (h : wfT yevergreenlaw14_Step o) : StepOK o := by
  obtain ⟨_, h2, h3, h4⟩ := h
  exact ⟨u8_range h2, u8_range h3, u8_range h4⟩
def txAt (ts : List (List Int)) (n : Int) : List Int := ts.getD (n % (ts.length : Int)).toNat []
/-- what one step makes -/
def btStep (ts : List (List Int)) (o : StepT) : List (List Int) :=
  if sJoin o = false ∨ ts.length = 0 then ts ++ [[sLet o]]
  else if 1152921504606846976 < ((txAt ts (sA o)).length : Int) + (txAt ts (sB o)).length then ts
  else ts ++ [txAt ts (sA o) ++ txAt ts (sB o)]
def btF (ts : List (List Int)) : List StepT → List (List Int)
  | [] => ts
  | o :: ops => btF (btStep ts o) ops
/-- the texts of a script -/
def bt (ops : List StepT) : List (List Int) := btF [] (ops.take 90)
def clipT (t : List Int) : List Int := if (t.length : Int) ≤ 4096 then t else []
structure Fine (T : List ET) (ids : List Int) (ts : List (List Int)) : Prop where
  len : ids.length = ts.length
  nd : ∀ (k : Nat) (x : Int) (t : List Int), ids[k]? = some x → ts[k]? = some t → ∃ d, Nd T x t d
theorem Fine.ext {T' : List ET} {ids : List Int} {ts : List (List Int)} (f : Fine T ids ts) (h : T <+: T') : Fine T' ids ts :=
  ⟨f.len, fun k x t h1 h2 => by obtain ⟨d, n⟩ := f.nd k x t h1 h2; exact ⟨d, n.ext h⟩⟩
theorem Fine.snoc {ids : List Int} {ts : List (List Int)} {x d : Int} {t : List Int} (f : Fine T ids ts) (n : Nd T x t d) : Fine T (ids ++ [x]) (ts ++ [t]) := by
  have hl := f.len
  refine ⟨by simp [hl], fun k y u h1 h2 => ?_⟩
  rcases Nat.lt_or_ge k ids.length with hk | hk
  · rw [List.getElem?_append_left hk] at h1
    rw [List.getElem?_append_left (by omega)] at h2
    exact f.nd k y u h1 h2
  · rw [List.getElem?_append_right hk] at h1
    rw [List.getElem?_append_right (by omega)] at h2
    have e : k - ids.length = 0 := by
      have := (List.getElem?_eq_some_iff.1 h1).1
      simp at this; omega
    rw [e] at h1
    rw [show k - ts.length = 0 by omega] at h2
    simp at h1 h2
    subst h1 h2
    exact ⟨_, n⟩
def lensT (ts : List (List Int)) : List (Ty.int .i64).T := ts.map fun t => (t.length : Int)

end Go.Proofs.Ytgbledjehnojeaa

/- Build of law14, walked. The walks of its orders of evaluation are printed by wip/gen/walk14.py. -/
set_option linter.unusedVariables false
set_option linter.unusedSimpArgs false
namespace Go.Proofs.Ytgbledjehnojeaa
open Go.Den

variable {w0 w : World} {Ω : List Ob} {most : Int} {T : List ET} {i : Nat} {p : Addr}

theorem btF_snoc (o : StepT) : ∀ (ops : List StepT) (ts : List (List Int)), btF ts (ops ++ [o]) = btStep (btF ts ops) o
  | [], ts => rfl
  | x :: ops, ts => btF_snoc o ops _
def btN (ops : List StepT) (n : Nat) : List (List Int) := btF [] (ops.take n)
theorem btN_succ {ops : List StepT} {n : Nat} (h : n < ops.length) : btN ops (n + 1) = btStep (btN ops n) ops[n] := by
  unfold btN
  rw [List.take_add_one, List.getElem?_eq_getElem h]
  exact btF_snoc _ _ _
theorem btStep_len (ts : List (List Int)) (o : StepT) : (btStep ts o).length ≤ ts.length + 1 := by
  unfold btStep
  split
  · simp
  · split
    · omega
    · simp
theorem btN_len (ops : List StepT) : ∀ n, (btN ops n).length ≤ n
  | 0 => Nat.le_refl _
  | n + 1 => by
    by_cases h : n < ops.length
    · rw [btN_succ h]
      have := btStep_len (btN ops n) ops[n]
      have := btN_len ops n
      omega
    · have : btN ops (n + 1) = btN ops n := by unfold btN; rw [List.take_of_length_le (by omega), List.take_of_length_le (by omega)]
      rw [this]
      have := btN_len ops n
      omega

/-- what there is after n steps -/
def BSt (w0 : World) (Ω : List Ob) (a1 a3 : Nat) (p : Addr) (ops : List StepT) (n : Nat) (w : World) : Prop :=
  ∃ (T : List ET) (ids lens txs : Sl) (is : List (Ty.int .i64).T) (sls : List Ty.slice.T), Fine T is (btN ops n) ∧ sls.length = (btN ops n).length ∧ T.length ≤ 260 * n ∧
    Sp w0 (own (.int .i64) ids is :: own (.int .i64) lens (lensT (btN ops n)) :: own .slice txs sls :: cel a3 (cells yevergreenlaw14_Made (some p, ids, lens, txs)) :: tvs sls ((btN ops n).map clipT) :: sto p 1048576 T :: cel a1 [.pointer none, .slice none 0 0, .slice none 0 0, .slice none 0 0] :: Ω) w

theorem emodN {a : Int} {n : Nat} (hn : 1 ≤ n) (h0 : 0 ≤ a) : ∃ k : Nat, Int.tmod a (n : Int) = k ∧ k < n ∧ (a % (n : Int)).toNat = k := by
  rw [Int.tmod_eq_emod_of_nonneg h0]
  have h1 := Int.emod_nonneg a (show (n : Int) ≠ 0 by omega)
  have h2 := Int.emod_lt_of_pos a (show 0 < (n : Int) by omega)
  exact ⟨(a % (n : Int)).toNat, by omega, by omega, rfl⟩
theorem clip_snoc (ts : List (List Int)) (t : List Int) : (ts ++ [t]).map clipT = ts.map clipT ++ [clipT t] := by simp
theorem lens_snoc (ts : List (List Int)) (t : List Int) : lensT (ts ++ [t]) = lensT ts ++ [(t.length : Int)] := by simp [lensT]
theorem clip_le (t : List Int) : (clipT t).length ≤ 4096 := by
  unfold clipT
  split
  · omega
  · simp

set_option maxHeartbeats 0 in
theorem law14_Build_spec {sl : Sl} {ops : List StepT} (s : Sp w0 Ω w) (hv : View yevergreenlaw14_Step w0 sl ops) (ho : ∀ o ∈ ops, StepOK o) {K : yevergreenlaw14_Made.T × Bool → World → Prop}
    (h : ∀ (p : Addr) (ids lens txs : Sl) (is : List (Ty.int .i64).T) (sls : List Ty.slice.T) (T : List ET) w', Fine T is (bt ops) → sls.length = (bt ops).length → T.length ≤ 23400 →
      Sp w0 (own (.int .i64) ids is :: own (.int .i64) lens (lensT (bt ops)) :: own .slice txs sls :: tvs sls ((bt ops).map clipT) :: sto p 1048576 T :: Ω) w' → K ((some p, ids, lens, txs), true) w') : C_law14_Build sl K w := by
  apply S_law14_Build
  unfold F_law14_Build
  have hlen := hv.len
  refine s.allocK fun a1 w1 s => intern_New_sp s fun p w2 s => s.allocK fun a3 w3 s => s.st0 0 rfl rfl rfl fun w4 s => s.ldp (x := some p) 0 0 rfl rfl (gd_f rfl ?_)
  have hb90 : bt ops = btN ops (min ops.length 90) := by
    unfold bt btN
    congr 1
    by_cases c : ops.length ≤ 90
    · rw [List.take_of_length_le c, List.take_of_length_le (by omega)]
    · congr 1; omega
  refine ⟨fun _ w => BSt w0 Ω a1 a3 p ops (min ops.length 90) w, ?_, ?_⟩
  rotate_left
  · rintro _ w6 ⟨T, ids, lens, txs, is, sls, hf, hsl, hT, s⟩ _
    refine s.ld0 (ty := yevergreenlaw14_Made) (x := (some p, ids, lens, txs)) 3 rfl rfl (s.st0 6 rfl rfl rfl fun w7 s => s.ld0 (ty := yevergreenlaw14_Made) (x := (some p, ids, lens, txs)) 6 rfl rfl (h p ids lens txs is sls T _ ?_ ?_ (by omega) ?_))
    · rw [hb90]; exact hf
    · rw [hb90]; exact hsl
    · rw [hb90]; exact s.pick [0, 1, 2, 4, 5] 7 rfl (by decide)
  refine loop_by (fun x => x.1) (min ops.length 90) (fun n _ w => BSt w0 Ω a1 a3 p ops n w) rfl ⟨[], ⟨none, 0, 0⟩, ⟨none, 0, 0⟩, ⟨none, 0, 0⟩, [], [], ⟨rfl, fun k x t h1 _ => by simp at h1⟩, rfl, by simp, ?_⟩ ?_
  · have s2 := ((((Sp.tvs0 s).nil .slice).nil (.int .i64)).nil (.int .i64))
    exact s2.pick [0, 1, 2, 4, 3, 5, 6] 7 rfl (by decide)
  clear s
  rintro n ⟨x, _⟩ w5 hn hx hb _
  dsimp only at hx ⊢
  subst hx
  have fin : ¬ (n < ops.length ∧ n < 90) → BSt w0 Ω a1 a3 p ops (min ops.length 90) w5 := fun c => by
    have : n = min ops.length 90 := by omega
    rw [← this]; exact hb
  refine JoinP.inl (gd_dec (fun c1 => gd_dec (fun c2 => ?_) (fun c2 => fin (by omega))) (fun c1 => fin (by omega)))
  intro _
  have hn1 : n < ops.length := by omega
  have hn2 : n < min ops.length 90 := by omega
  refine ⟨fun _ w => BSt w0 Ω a1 a3 p ops (n + 1) w, ?_, fun _ w9 hb9 _ => arith_i64 (by omega) (by omega) (loop_nx hn2 hb9)⟩
  have hget := List.getElem?_eq_getElem hn1
  have hok := ho _ (List.getElem_mem hn1)
  have hnext := btN_succ hn1
  have hlen' := btN_len ops n
  obtain ⟨T, ids, lens, txs, is, sls, hf, hsl, hT, s⟩ := hb
  unfold BSt
  rw [hnext]
  generalize ops[n] = o at hget hok hnext
  generalize btN ops n = ts at *
  have hfl := hf.len
  have hil := (s.view 0 rfl).len
  obtain ⟨_, _, _, hb0, hb1, hb2, hg⟩ := Sp.entry s 5 rfl
  have b1 : (is.length + [(0 : Int)].length) * 8 ≤ 140737488355328 := by simp only [List.length_cons, List.length_nil]; omega
  have b2 : ((lensT ts).length + [(0 : Int)].length) * 8 ≤ 140737488355328 := by simp only [lensT, List.length_map, List.length_cons, List.length_nil]; omega
  have b3 : (sls.length + [(0 : Int)].length) * 24 ≤ 140737488355328 := by simp only [List.length_cons, List.length_nil]; omega
  refine s.drawK fun w10 s => (hv.ext s.ext).idx2 rfl hget rfl fun q hq => ⟨o, hq _ (hv.ext s.ext), s.lds (x := ids) 3 1 rfl rfl (s.allocK fun a18 w11 s => ⟨s.still 4 1 rfl rfl, hq _ (hv.ext s.ext), s.st0 0 rfl rfl rfl fun w12 s => ⟨s.still 4 1 rfl rfl, ?_⟩⟩)⟩
  refine ⟨fun x w => x.1 = (!sJoin o || decide (ts.length = 0)) ∧ Sp w0 (cel a18 (cells yevergreenlaw14_Step o) :: own (.int .i64) ids is :: own (.int .i64) lens (lensT ts) :: own .slice txs sls :: cel a3 (cells yevergreenlaw14_Made (some p, ids, lens, txs)) :: tvs sls (ts.map clipT) :: sto p 1048576 T :: cel a1 [.pointer none, .slice none 0 0, .slice none 0 0, .slice none 0 0] :: Ω) w, ?_, ?_⟩
  · refine s.ldb (x := sJoin o) 0 0 rfl rfl (gd_mk (fun e => ⟨by rw [e]; rfl, s⟩) (fun e => ⟨?_, s⟩))
    rw [e, Bool.false_or]
    show decide ((ids.len : Int) = 0) = decide (ts.length = 0)
    exact decide_eq_decide.2 (by omega)
  rintro ⟨jb, _⟩ w13 ⟨hj, s⟩ _
  dsimp only at hj ⊢
  subst hj
  refine gd_mk (fun c => ?_) (fun c => ?_)
  · -- a letter
    have hst : btStep ts o = ts ++ [[sLet o]] := by
      unfold btStep
      refine if_pos ?_
      cases e : sJoin o
      · exact Or.inl rfl
      · rw [e] at c; right; simpa using c
    rw [hst]
    refine s.ldp (x := some p) 4 0 rfl rfl (s.ldi (x := sLet o) 0 1 rfl rfl (letter_nd s 6 rfl hok.l fun T1 xr w14 r1 s => ?_))
    obtain ⟨x1, er⟩ := xr
    rcases r1.out with ⟨e1, n1⟩ | ⟨_, hbad⟩
    rotate_left
    · omega
    dsimp only at e1 n1
    subst e1
    have hl1 := r1.len
    refine nilIfc_nil (gd_f rfl (s.drawK fun w16 s => s.lds (x := ids) 4 1 rfl rfl (s.lds (x := lens) 4 2 rfl rfl (s.lds (x := txs) 4 3 rfl rfl (s.ldi (x := sLet o) 0 1 rfl rfl ?_)))))
    have h : ∀ (ids' lens' txs' : Sl) (a : Nat) (w : World), Sp w0 (own (.int .i64) ids' (is ++ [x1]) :: own (.int .i64) lens' (lensT ts ++ [(1 : Int)]) :: own .slice txs' (sls ++ [(⟨some ⟨a, 0, none⟩, 1, 1⟩ : Sl)]) :: cel a [.int .u8 (sLet o)] :: cel a3 (cells yevergreenlaw14_Made (some p, ids', lens', txs')) :: tvs sls (ts.map clipT) :: sto p 1048576 T1 :: cel a1 [.pointer none, .slice none 0 0, .slice none 0 0, .slice none 0 0] :: Ω) w →
        ∃ (T : List ET) (ids lens txs : Sl) (is : List (Ty.int .i64).T) (sls : List Ty.slice.T), Fine T is (ts ++ [[sLet o]]) ∧ sls.length = (ts ++ [[sLet o]]).length ∧ T.length ≤ 260 * (n + 1) ∧
          Sp w0 (own (.int .i64) ids is :: own (.int .i64) lens (lensT (ts ++ [[sLet o]])) :: own .slice txs sls :: cel a3 (cells yevergreenlaw14_Made (some p, ids, lens, txs)) :: tvs sls ((ts ++ [[sLet o]]).map clipT) :: sto p 1048576 T :: cel a1 [.pointer none, .slice none 0 0, .slice none 0 0, .slice none 0 0] :: Ω) w := by
      intro ids' lens' txs' a w s
      refine ⟨T1, ids', lens', txs', is ++ [x1], sls ++ [(⟨some ⟨a, 0, none⟩, 1, 1⟩ : Sl)], (hf.ext r1.ext).snoc n1, by simp [hsl], by omega, ?_⟩
      rw [clip_snoc, lens_snoc]
      have s2 := s.lit (ty := .int .u8) 3 rfl [sLet o] 1 rfl rfl
      have s3 := s2.pull 3 rfl
      have s4 := Sp.tvs_add s3 4 rfl
      exact s4.pick [1, 2, 3, 4, 0, 6, 7] 8 rfl (by decide)
    exact ⟨s.allocK fun a32 w17 s => ⟨s.still 1 1 rfl rfl, ⟨s.still 5 3 rfl rfl, ⟨s.still 5 2 rfl rfl, ⟨s.still 5 1 rfl rfl, ⟨s.app 2 rfl ((s.lit (ty := .int .i64) 0 rfl [x1] 1 rfl rfl).view 0 rfl) b1 fun s33 w18 s => ⟨s.still 1 1 rfl rfl, ⟨s.still 5 3 rfl rfl, ⟨s.still 5 2 rfl rfl, ⟨s.allocK fun a34 w19 s => ⟨s.still 2 1 rfl rfl, ⟨s.still 6 3 rfl rfl, ⟨s.still 6 2 rfl rfl, ⟨s.app 4 rfl ((s.lit (ty := .int .i64) 0 rfl [(1 : Int)] 1 rfl rfl).view 0 rfl) b2 fun s35 w20 s => ⟨s.still 2 1 rfl rfl, ⟨s.still 6 3 rfl rfl, s.allocK fun a36 w21 s => ⟨s.still 7 3 rfl rfl, s.allocK fun a37 w22 s => ⟨s.still 8 3 rfl rfl, s.app 7 rfl ((s.lit (ty := .slice) 0 rfl [(⟨some ⟨a36, 0, none⟩, 1, 1⟩ : Sl)] 1 rfl rfl).view 0 rfl) b3 fun s38 w23 s => s.st 8 1 rfl rfl rfl fun w24 s => s.st 8 2 rfl rfl rfl fun w25 s => s.st 8 3 rfl rfl rfl fun w26 s => h s33 s35 s38 a36 _ (s.pick [5, 6, 7, 1, 8] 9 rfl (by decide))⟩⟩⟩⟩,
s.allocK fun a39 w27 s => ⟨s.still 7 3 rfl rfl, ⟨s.still 7 2 rfl rfl, ⟨s.app 5 rfl ((s.lit (ty := .int .i64) 1 rfl [(1 : Int)] 1 rfl rfl).view 1 rfl) b2 fun s40 w28 s => ⟨s.still 7 3 rfl rfl, s.allocK fun a41 w29 s => ⟨s.still 8 3 rfl rfl, s.app 7 rfl ((s.lit (ty := .slice) 0 rfl [(⟨some ⟨a39, 0, none⟩, 1, 1⟩ : Sl)] 1 rfl rfl).view 0 rfl) b3 fun s42 w30 s => s.st 8 1 rfl rfl rfl fun w31 s => s.st 8 2 rfl rfl rfl fun w32 s => s.st 8 3 rfl rfl rfl fun w33 s => h s33 s40 s42 a39 _ (s.pick [5, 6, 7, 1, 8] 9 rfl (by decide))⟩⟩,
s.allocK fun a43 w34 s => ⟨s.still 8 3 rfl rfl, ⟨s.still 8 2 rfl rfl, s.app 6 rfl ((s.lit (ty := .int .i64) 2 rfl [(1 : Int)] 1 rfl rfl).view 2 rfl) b2 fun s44 w35 s => ⟨s.still 8 3 rfl rfl, s.app 7 rfl ((s.lit (ty := .slice) 0 rfl [(⟨some ⟨a39, 0, none⟩, 1, 1⟩ : Sl)] 1 rfl rfl).view 0 rfl) b3 fun s45 w36 s => s.st 8 1 rfl rfl rfl fun w37 s => s.st 8 2 rfl rfl rfl fun w38 s => s.st 8 3 rfl rfl rfl fun w39 s => h s33 s44 s45 a39 _ (s.pick [5, 6, 7, 1, 8] 9 rfl (by decide))⟩⟩⟩⟩⟩⟩⟩⟩⟩⟩,
s.allocK fun a46 w40 s => ⟨s.still 6 3 rfl rfl, ⟨s.still 6 2 rfl rfl, ⟨s.allocK fun a47 w41 s => ⟨s.still 7 3 rfl rfl, ⟨s.still 7 2 rfl rfl, ⟨s.app 5 rfl ((s.lit (ty := .int .i64) 0 rfl [(1 : Int)] 1 rfl rfl).view 0 rfl) b2 fun s48 w42 s => ⟨s.still 7 3 rfl rfl, s.allocK fun a49 w43 s => ⟨s.still 8 3 rfl rfl, s.app 7 rfl ((s.lit (ty := .slice) 0 rfl [(⟨some ⟨a46, 0, none⟩, 1, 1⟩ : Sl)] 1 rfl rfl).view 0 rfl) b3 fun s50 w44 s => s.st 8 1 rfl rfl rfl fun w45 s => s.st 8 2 rfl rfl rfl fun w46 s => s.st 8 3 rfl rfl rfl fun w47 s => h s33 s48 s50 a46 _ (s.pick [5, 6, 7, 2, 8] 9 rfl (by decide))⟩⟩,
s.allocK fun a51 w48 s => ⟨s.still 8 3 rfl rfl, ⟨s.still 8 2 rfl rfl, s.app 6 rfl ((s.lit (ty := .int .i64) 1 rfl [(1 : Int)] 1 rfl rfl).view 1 rfl) b2 fun s52 w49 s => ⟨s.still 8 3 rfl rfl, s.app 7 rfl ((s.lit (ty := .slice) 0 rfl [(⟨some ⟨a46, 0, none⟩, 1, 1⟩ : Sl)] 1 rfl rfl).view 0 rfl) b3 fun s53 w50 s => s.st 8 1 rfl rfl rfl fun w51 s => s.st 8 2 rfl rfl rfl fun w52 s => s.st 8 3 rfl rfl rfl fun w53 s => h s33 s52 s53 a46 _ (s.pick [5, 6, 7, 2, 8] 9 rfl (by decide))⟩⟩⟩⟩⟩⟩,
s.allocK fun a54 w54 s => ⟨s.still 7 3 rfl rfl, ⟨s.still 7 2 rfl rfl, s.allocK fun a55 w55 s => ⟨s.still 8 3 rfl rfl, ⟨s.still 8 2 rfl rfl, s.app 6 rfl ((s.lit (ty := .int .i64) 0 rfl [(1 : Int)] 1 rfl rfl).view 0 rfl) b2 fun s56 w56 s => ⟨s.still 8 3 rfl rfl, s.app 7 rfl ((s.lit (ty := .slice) 1 rfl [(⟨some ⟨a46, 0, none⟩, 1, 1⟩ : Sl)] 1 rfl rfl).view 1 rfl) b3 fun s57 w57 s => s.st 8 1 rfl rfl rfl fun w58 s => s.st 8 2 rfl rfl rfl fun w59 s => s.st 8 3 rfl rfl rfl fun w60 s => h s33 s56 s57 a46 _ (s.pick [5, 6, 7, 2, 8] 9 rfl (by decide))⟩⟩⟩⟩⟩⟩⟩⟩⟩⟩⟩⟩,
⟨s.allocK fun a58 w61 s => ⟨s.still 2 1 rfl rfl, ⟨s.still 6 3 rfl rfl, ⟨s.still 6 2 rfl rfl, ⟨s.still 6 1 rfl rfl, ⟨s.app 3 rfl ((s.lit (ty := .int .i64) 1 rfl [x1] 1 rfl rfl).view 1 rfl) b1 fun s59 w62 s => ⟨s.still 2 1 rfl rfl, ⟨s.still 6 3 rfl rfl, ⟨s.still 6 2 rfl rfl, ⟨s.app 4 rfl ((s.lit (ty := .int .i64) 0 rfl [(1 : Int)] 1 rfl rfl).view 0 rfl) b2 fun s60 w63 s => ⟨s.still 2 1 rfl rfl, ⟨s.still 6 3 rfl rfl, s.allocK fun a61 w64 s => ⟨s.still 7 3 rfl rfl, s.allocK fun a62 w65 s => ⟨s.still 8 3 rfl rfl, s.app 7 rfl ((s.lit (ty := .slice) 0 rfl [(⟨some ⟨a61, 0, none⟩, 1, 1⟩ : Sl)] 1 rfl rfl).view 0 rfl) b3 fun s63 w66 s => s.st 8 1 rfl rfl rfl fun w67 s => s.st 8 2 rfl rfl rfl fun w68 s => s.st 8 3 rfl rfl rfl fun w69 s => h s59 s60 s63 a61 _ (s.pick [5, 6, 7, 1, 8] 9 rfl (by decide))⟩⟩⟩⟩,
s.allocK fun a64 w70 s => ⟨s.still 7 3 rfl rfl, ⟨s.still 7 2 rfl rfl, ⟨s.app 5 rfl ((s.lit (ty := .int .i64) 1 rfl [(1 : Int)] 1 rfl rfl).view 1 rfl) b2 fun s65 w71 s => ⟨s.still 7 3 rfl rfl, s.allocK fun a66 w72 s => ⟨s.still 8 3 rfl rfl, s.app 7 rfl ((s.lit (ty := .slice) 0 rfl [(⟨some ⟨a64, 0, none⟩, 1, 1⟩ : Sl)] 1 rfl rfl).view 0 rfl) b3 fun s67 w73 s => s.st 8 1 rfl rfl rfl fun w74 s => s.st 8 2 rfl rfl rfl fun w75 s => s.st 8 3 rfl rfl rfl fun w76 s => h s59 s65 s67 a64 _ (s.pick [5, 6, 7, 1, 8] 9 rfl (by decide))⟩⟩,
s.allocK fun a68 w77 s => ⟨s.still 8 3 rfl rfl, ⟨s.still 8 2 rfl rfl, s.app 6 rfl ((s.lit (ty := .int .i64) 2 rfl [(1 : Int)] 1 rfl rfl).view 2 rfl) b2 fun s69 w78 s => ⟨s.still 8 3 rfl rfl, s.app 7 rfl ((s.lit (ty := .slice) 0 rfl [(⟨some ⟨a64, 0, none⟩, 1, 1⟩ : Sl)] 1 rfl rfl).view 0 rfl) b3 fun s70 w79 s => s.st 8 1 rfl rfl rfl fun w80 s => s.st 8 2 rfl rfl rfl fun w81 s => s.st 8 3 rfl rfl rfl fun w82 s => h s59 s69 s70 a64 _ (s.pick [5, 6, 7, 1, 8] 9 rfl (by decide))⟩⟩⟩⟩⟩⟩⟩⟩⟩⟩,
s.allocK fun a71 w83 s => ⟨s.still 7 3 rfl rfl, ⟨s.still 7 2 rfl rfl, ⟨s.still 7 1 rfl rfl, ⟨s.app 4 rfl ((s.lit (ty := .int .i64) 2 rfl [x1] 1 rfl rfl).view 2 rfl) b1 fun s72 w84 s => ⟨s.still 7 3 rfl rfl, ⟨s.still 7 2 rfl rfl, ⟨s.app 5 rfl ((s.lit (ty := .int .i64) 1 rfl [(1 : Int)] 1 rfl rfl).view 1 rfl) b2 fun s73 w85 s => ⟨s.still 7 3 rfl rfl, s.allocK fun a74 w86 s => ⟨s.still 8 3 rfl rfl, s.app 7 rfl ((s.lit (ty := .slice) 0 rfl [(⟨some ⟨a71, 0, none⟩, 1, 1⟩ : Sl)] 1 rfl rfl).view 0 rfl) b3 fun s75 w87 s => s.st 8 1 rfl rfl rfl fun w88 s => s.st 8 2 rfl rfl rfl fun w89 s => s.st 8 3 rfl rfl rfl fun w90 s => h s72 s73 s75 a71 _ (s.pick [5, 6, 7, 1, 8] 9 rfl (by decide))⟩⟩,
s.allocK fun a76 w91 s => ⟨s.still 8 3 rfl rfl, ⟨s.still 8 2 rfl rfl, s.app 6 rfl ((s.lit (ty := .int .i64) 2 rfl [(1 : Int)] 1 rfl rfl).view 2 rfl) b2 fun s77 w92 s => ⟨s.still 8 3 rfl rfl, s.app 7 rfl ((s.lit (ty := .slice) 0 rfl [(⟨some ⟨a71, 0, none⟩, 1, 1⟩ : Sl)] 1 rfl rfl).view 0 rfl) b3 fun s78 w93 s => s.st 8 1 rfl rfl rfl fun w94 s => s.st 8 2 rfl rfl rfl fun w95 s => s.st 8 3 rfl rfl rfl fun w96 s => h s72 s77 s78 a71 _ (s.pick [5, 6, 7, 1, 8] 9 rfl (by decide))⟩⟩⟩⟩⟩⟩,
s.allocK fun a79 w97 s => ⟨s.still 8 3 rfl rfl, ⟨s.still 8 2 rfl rfl, ⟨s.still 8 1 rfl rfl, s.app 5 rfl ((s.lit (ty := .int .i64) 3 rfl [x1] 1 rfl rfl).view 3 rfl) b1 fun s80 w98 s => ⟨s.still 8 3 rfl rfl, ⟨s.still 8 2 rfl rfl, s.app 6 rfl ((s.lit (ty := .int .i64) 2 rfl [(1 : Int)] 1 rfl rfl).view 2 rfl) b2 fun s81 w99 s => ⟨s.still 8 3 rfl rfl, s.app 7 rfl ((s.lit (ty := .slice) 0 rfl [(⟨some ⟨a71, 0, none⟩, 1, 1⟩ : Sl)] 1 rfl rfl).view 0 rfl) b3 fun s82 w100 s => s.st 8 1 rfl rfl rfl fun w101 s => s.st 8 2 rfl rfl rfl fun w102 s => s.st 8 3 rfl rfl rfl fun w103 s => h s80 s81 s82 a71 _ (s.pick [5, 6, 7, 1, 8] 9 rfl (by decide))⟩⟩⟩⟩⟩⟩⟩⟩⟩⟩⟩⟩⟩⟩⟩,
s.allocK fun a83 w104 s => ⟨s.still 6 3 rfl rfl, ⟨s.still 6 2 rfl rfl, ⟨s.still 6 1 rfl rfl, ⟨s.app 3 rfl ((s.lit (ty := .int .i64) 1 rfl [x1] 1 rfl rfl).view 1 rfl) b1 fun s84 w105 s => ⟨s.still 6 3 rfl rfl, ⟨s.still 6 2 rfl rfl, ⟨s.allocK fun a85 w106 s => ⟨s.still 7 3 rfl rfl, ⟨s.still 7 2 rfl rfl, ⟨s.app 5 rfl ((s.lit (ty := .int .i64) 0 rfl [(1 : Int)] 1 rfl rfl).view 0 rfl) b2 fun s86 w107 s => ⟨s.still 7 3 rfl rfl, s.allocK fun a87 w108 s => ⟨s.still 8 3 rfl rfl, s.app 7 rfl ((s.lit (ty := .slice) 0 rfl [(⟨some ⟨a83, 0, none⟩, 1, 1⟩ : Sl)] 1 rfl rfl).view 0 rfl) b3 fun s88 w109 s => s.st 8 1 rfl rfl rfl fun w110 s => s.st 8 2 rfl rfl rfl fun w111 s => s.st 8 3 rfl rfl rfl fun w112 s => h s84 s86 s88 a83 _ (s.pick [5, 6, 7, 2, 8] 9 rfl (by decide))⟩⟩,
s.allocK fun a89 w113 s => ⟨s.still 8 3 rfl rfl, ⟨s.still 8 2 rfl rfl, s.app 6 rfl ((s.lit (ty := .int .i64) 1 rfl [(1 : Int)] 1 rfl rfl).view 1 rfl) b2 fun s90 w114 s => ⟨s.still 8 3 rfl rfl, s.app 7 rfl ((s.lit (ty := .slice) 0 rfl [(⟨some ⟨a83, 0, none⟩, 1, 1⟩ : Sl)] 1 rfl rfl).view 0 rfl) b3 fun s91 w115 s => s.st 8 1 rfl rfl rfl fun w116 s => s.st 8 2 rfl rfl rfl fun w117 s => s.st 8 3 rfl rfl rfl fun w118 s => h s84 s90 s91 a83 _ (s.pick [5, 6, 7, 2, 8] 9 rfl (by decide))⟩⟩⟩⟩⟩⟩,
s.allocK fun a92 w119 s => ⟨s.still 7 3 rfl rfl, ⟨s.still 7 2 rfl rfl, s.allocK fun a93 w120 s => ⟨s.still 8 3 rfl rfl, ⟨s.still 8 2 rfl rfl, s.app 6 rfl ((s.lit (ty := .int .i64) 0 rfl [(1 : Int)] 1 rfl rfl).view 0 rfl) b2 fun s94 w121 s => ⟨s.still 8 3 rfl rfl, s.app 7 rfl ((s.lit (ty := .slice) 1 rfl [(⟨some ⟨a83, 0, none⟩, 1, 1⟩ : Sl)] 1 rfl rfl).view 1 rfl) b3 fun s95 w122 s => s.st 8 1 rfl rfl rfl fun w123 s => s.st 8 2 rfl rfl rfl fun w124 s => s.st 8 3 rfl rfl rfl fun w125 s => h s84 s94 s95 a83 _ (s.pick [5, 6, 7, 2, 8] 9 rfl (by decide))⟩⟩⟩⟩⟩⟩⟩⟩,
⟨s.allocK fun a96 w126 s => ⟨s.still 7 3 rfl rfl, ⟨s.still 7 2 rfl rfl, ⟨s.still 7 1 rfl rfl, ⟨s.app 4 rfl ((s.lit (ty := .int .i64) 2 rfl [x1] 1 rfl rfl).view 2 rfl) b1 fun s97 w127 s => ⟨s.still 7 3 rfl rfl, ⟨s.still 7 2 rfl rfl, ⟨s.app 5 rfl ((s.lit (ty := .int .i64) 0 rfl [(1 : Int)] 1 rfl rfl).view 0 rfl) b2 fun s98 w128 s => ⟨s.still 7 3 rfl rfl, s.allocK fun a99 w129 s => ⟨s.still 8 3 rfl rfl, s.app 7 rfl ((s.lit (ty := .slice) 0 rfl [(⟨some ⟨a83, 0, none⟩, 1, 1⟩ : Sl)] 1 rfl rfl).view 0 rfl) b3 fun s100 w130 s => s.st 8 1 rfl rfl rfl fun w131 s => s.st 8 2 rfl rfl rfl fun w132 s => s.st 8 3 rfl rfl rfl fun w133 s => h s97 s98 s100 a83 _ (s.pick [5, 6, 7, 2, 8] 9 rfl (by decide))⟩⟩,
s.allocK fun a101 w134 s => ⟨s.still 8 3 rfl rfl, ⟨s.still 8 2 rfl rfl, s.app 6 rfl ((s.lit (ty := .int .i64) 1 rfl [(1 : Int)] 1 rfl rfl).view 1 rfl) b2 fun s102 w135 s => ⟨s.still 8 3 rfl rfl, s.app 7 rfl ((s.lit (ty := .slice) 0 rfl [(⟨some ⟨a83, 0, none⟩, 1, 1⟩ : Sl)] 1 rfl rfl).view 0 rfl) b3 fun s103 w136 s => s.st 8 1 rfl rfl rfl fun w137 s => s.st 8 2 rfl rfl rfl fun w138 s => s.st 8 3 rfl rfl rfl fun w139 s => h s97 s102 s103 a83 _ (s.pick [5, 6, 7, 2, 8] 9 rfl (by decide))⟩⟩⟩⟩⟩⟩,
s.allocK fun a104 w140 s => ⟨s.still 8 3 rfl rfl, ⟨s.still 8 2 rfl rfl, ⟨s.still 8 1 rfl rfl, s.app 5 rfl ((s.lit (ty := .int .i64) 3 rfl [x1] 1 rfl rfl).view 3 rfl) b1 fun s105 w141 s => ⟨s.still 8 3 rfl rfl, ⟨s.still 8 2 rfl rfl, s.app 6 rfl ((s.lit (ty := .int .i64) 1 rfl [(1 : Int)] 1 rfl rfl).view 1 rfl) b2 fun s106 w142 s => ⟨s.still 8 3 rfl rfl, s.app 7 rfl ((s.lit (ty := .slice) 0 rfl [(⟨some ⟨a83, 0, none⟩, 1, 1⟩ : Sl)] 1 rfl rfl).view 0 rfl) b3 fun s107 w143 s => s.st 8 1 rfl rfl rfl fun w144 s => s.st 8 2 rfl rfl rfl fun w145 s => s.st 8 3 rfl rfl rfl fun w146 s => h s105 s106 s107 a83 _ (s.pick [5, 6, 7, 2, 8] 9 rfl (by decide))⟩⟩⟩⟩⟩⟩⟩⟩⟩⟩,
s.allocK fun a108 w147 s => ⟨s.still 7 3 rfl rfl, ⟨s.still 7 2 rfl rfl, ⟨s.still 7 1 rfl rfl, ⟨s.app 4 rfl ((s.lit (ty := .int .i64) 2 rfl [x1] 1 rfl rfl).view 2 rfl) b1 fun s109 w148 s => ⟨s.still 7 3 rfl rfl, ⟨s.still 7 2 rfl rfl, s.allocK fun a110 w149 s => ⟨s.still 8 3 rfl rfl, ⟨s.still 8 2 rfl rfl, s.app 6 rfl ((s.lit (ty := .int .i64) 0 rfl [(1 : Int)] 1 rfl rfl).view 0 rfl) b2 fun s111 w150 s => ⟨s.still 8 3 rfl rfl, s.app 7 rfl ((s.lit (ty := .slice) 1 rfl [(⟨some ⟨a83, 0, none⟩, 1, 1⟩ : Sl)] 1 rfl rfl).view 1 rfl) b3 fun s112 w151 s => s.st 8 1 rfl rfl rfl fun w152 s => s.st 8 2 rfl rfl rfl fun w153 s => s.st 8 3 rfl rfl rfl fun w154 s => h s109 s111 s112 a83 _ (s.pick [5, 6, 7, 2, 8] 9 rfl (by decide))⟩⟩⟩⟩⟩,
s.allocK fun a113 w155 s => ⟨s.still 8 3 rfl rfl, ⟨s.still 8 2 rfl rfl, ⟨s.still 8 1 rfl rfl, s.app 5 rfl ((s.lit (ty := .int .i64) 3 rfl [x1] 1 rfl rfl).view 3 rfl) b1 fun s114 w156 s => ⟨s.still 8 3 rfl rfl, ⟨s.still 8 2 rfl rfl, s.app 6 rfl ((s.lit (ty := .int .i64) 0 rfl [(1 : Int)] 1 rfl rfl).view 0 rfl) b2 fun s115 w157 s => ⟨s.still 8 3 rfl rfl, s.app 7 rfl ((s.lit (ty := .slice) 1 rfl [(⟨some ⟨a83, 0, none⟩, 1, 1⟩ : Sl)] 1 rfl rfl).view 1 rfl) b3 fun s116 w158 s => s.st 8 1 rfl rfl rfl fun w159 s => s.st 8 2 rfl rfl rfl fun w160 s => s.st 8 3 rfl rfl rfl fun w161 s => h s114 s115 s116 a83 _ (s.pick [5, 6, 7, 2, 8] 9 rfl (by decide))⟩⟩⟩⟩⟩⟩⟩⟩⟩⟩⟩⟩⟩⟩⟩⟩⟩⟩⟩⟩⟩,
⟨s.allocK fun a117 w162 s => ⟨s.still 1 1 rfl rfl, ⟨s.still 5 3 rfl rfl, ⟨s.still 5 2 rfl rfl, ⟨s.still 5 1 rfl rfl, ⟨s.allocK fun a118 w163 s => ⟨s.still 2 1 rfl rfl, ⟨s.still 6 3 rfl rfl, ⟨s.still 6 2 rfl rfl, ⟨s.still 6 1 rfl rfl, ⟨s.app 3 rfl ((s.lit (ty := .int .i64) 0 rfl [x1] 1 rfl rfl).view 0 rfl) b1 fun s119 w164 s => ⟨s.still 2 1 rfl rfl, ⟨s.still 6 3 rfl rfl, ⟨s.still 6 2 rfl rfl, ⟨s.app 4 rfl ((s.lit (ty := .int .i64) 1 rfl [(1 : Int)] 1 rfl rfl).view 1 rfl) b2 fun s120 w165 s => ⟨s.still 2 1 rfl rfl, ⟨s.still 6 3 rfl rfl, s.allocK fun a121 w166 s => ⟨s.still 7 3 rfl rfl, s.allocK fun a122 w167 s => ⟨s.still 8 3 rfl rfl, s.app 7 rfl ((s.lit (ty := .slice) 0 rfl [(⟨some ⟨a121, 0, none⟩, 1, 1⟩ : Sl)] 1 rfl rfl).view 0 rfl) b3 fun s123 w168 s => s.st 8 1 rfl rfl rfl fun w169 s => s.st 8 2 rfl rfl rfl fun w170 s => s.st 8 3 rfl rfl rfl fun w171 s => h s119 s120 s123 a121 _ (s.pick [5, 6, 7, 1, 8] 9 rfl (by decide))⟩⟩⟩⟩,
s.allocK fun a124 w172 s => ⟨s.still 7 3 rfl rfl, ⟨s.still 7 2 rfl rfl, ⟨s.app 5 rfl ((s.lit (ty := .int .i64) 2 rfl [(1 : Int)] 1 rfl rfl).view 2 rfl) b2 fun s125 w173 s => ⟨s.still 7 3 rfl rfl, s.allocK fun a126 w174 s => ⟨s.still 8 3 rfl rfl, s.app 7 rfl ((s.lit (ty := .slice) 0 rfl [(⟨some ⟨a124, 0, none⟩, 1, 1⟩ : Sl)] 1 rfl rfl).view 0 rfl) b3 fun s127 w175 s => s.st 8 1 rfl rfl rfl fun w176 s => s.st 8 2 rfl rfl rfl fun w177 s => s.st 8 3 rfl rfl rfl fun w178 s => h s119 s125 s127 a124 _ (s.pick [5, 6, 7, 1, 8] 9 rfl (by decide))⟩⟩,
s.allocK fun a128 w179 s => ⟨s.still 8 3 rfl rfl, ⟨s.still 8 2 rfl rfl, s.app 6 rfl ((s.lit (ty := .int .i64) 3 rfl [(1 : Int)] 1 rfl rfl).view 3 rfl) b2 fun s129 w180 s => ⟨s.still 8 3 rfl rfl, s.app 7 rfl ((s.lit (ty := .slice) 0 rfl [(⟨some ⟨a124, 0, none⟩, 1, 1⟩ : Sl)] 1 rfl rfl).view 0 rfl) b3 fun s130 w181 s => s.st 8 1 rfl rfl rfl fun w182 s => s.st 8 2 rfl rfl rfl fun w183 s => s.st 8 3 rfl rfl rfl fun w184 s => h s119 s129 s130 a124 _ (s.pick [5, 6, 7, 1, 8] 9 rfl (by decide))⟩⟩⟩⟩⟩⟩⟩⟩⟩⟩,
s.allocK fun a131 w185 s => ⟨s.still 7 3 rfl rfl, ⟨s.still 7 2 rfl rfl, ⟨s.still 7 1 rfl rfl, ⟨s.app 4 rfl ((s.lit (ty := .int .i64) 1 rfl [x1] 1 rfl rfl).view 1 rfl) b1 fun s132 w186 s => ⟨s.still 7 3 rfl rfl, ⟨s.still 7 2 rfl rfl, ⟨s.app 5 rfl ((s.lit (ty := .int .i64) 2 rfl [(1 : Int)] 1 rfl rfl).view 2 rfl) b2 fun s133 w187 s => ⟨s.still 7 3 rfl rfl, s.allocK fun a134 w188 s => ⟨s.still 8 3 rfl rfl, s.app 7 rfl ((s.lit (ty := .slice) 0 rfl [(⟨some ⟨a131, 0, none⟩, 1, 1⟩ : Sl)] 1 rfl rfl).view 0 rfl) b3 fun s135 w189 s => s.st 8 1 rfl rfl rfl fun w190 s => s.st 8 2 rfl rfl rfl fun w191 s => s.st 8 3 rfl rfl rfl fun w192 s => h s132 s133 s135 a131 _ (s.pick [5, 6, 7, 1, 8] 9 rfl (by decide))⟩⟩,
s.allocK fun a136 w193 s => ⟨s.still 8 3 rfl rfl, ⟨s.still 8 2 rfl rfl, s.app 6 rfl ((s.lit (ty := .int .i64) 3 rfl [(1 : Int)] 1 rfl rfl).view 3 rfl) b2 fun s137 w194 s => ⟨s.still 8 3 rfl rfl, s.app 7 rfl ((s.lit (ty := .slice) 0 rfl [(⟨some ⟨a131, 0, none⟩, 1, 1⟩ : Sl)] 1 rfl rfl).view 0 rfl) b3 fun s138 w195 s => s.st 8 1 rfl rfl rfl fun w196 s => s.st 8 2 rfl rfl rfl fun w197 s => s.st 8 3 rfl rfl rfl fun w198 s => h s132 s137 s138 a131 _ (s.pick [5, 6, 7, 1, 8] 9 rfl (by decide))⟩⟩⟩⟩⟩⟩,
s.allocK fun a139 w199 s => ⟨s.still 8 3 rfl rfl, ⟨s.still 8 2 rfl rfl, ⟨s.still 8 1 rfl rfl, s.app 5 rfl ((s.lit (ty := .int .i64) 2 rfl [x1] 1 rfl rfl).view 2 rfl) b1 fun s140 w200 s => ⟨s.still 8 3 rfl rfl, ⟨s.still 8 2 rfl rfl, s.app 6 rfl ((s.lit (ty := .int .i64) 3 rfl [(1 : Int)] 1 rfl rfl).view 3 rfl) b2 fun s141 w201 s => ⟨s.still 8 3 rfl rfl, s.app 7 rfl ((s.lit (ty := .slice) 0 rfl [(⟨some ⟨a131, 0, none⟩, 1, 1⟩ : Sl)] 1 rfl rfl).view 0 rfl) b3 fun s142 w202 s => s.st 8 1 rfl rfl rfl fun w203 s => s.st 8 2 rfl rfl rfl fun w204 s => s.st 8 3 rfl rfl rfl fun w205 s => h s140 s141 s142 a131 _ (s.pick [5, 6, 7, 1, 8] 9 rfl (by decide))⟩⟩⟩⟩⟩⟩⟩⟩⟩⟩⟩⟩⟩⟩⟩,
s.allocK fun a143 w206 s => ⟨s.still 6 3 rfl rfl, ⟨s.still 6 2 rfl rfl, ⟨s.still 6 1 rfl rfl, ⟨s.allocK fun a144 w207 s => ⟨s.still 7 3 rfl rfl, ⟨s.still 7 2 rfl rfl, ⟨s.still 7 1 rfl rfl, ⟨s.app 4 rfl ((s.lit (ty := .int .i64) 0 rfl [x1] 1 rfl rfl).view 0 rfl) b1 fun s145 w208 s => ⟨s.still 7 3 rfl rfl, ⟨s.still 7 2 rfl rfl, ⟨s.app 5 rfl ((s.lit (ty := .int .i64) 2 rfl [(1 : Int)] 1 rfl rfl).view 2 rfl) b2 fun s146 w209 s => ⟨s.still 7 3 rfl rfl, s.allocK fun a147 w210 s => ⟨s.still 8 3 rfl rfl, s.app 7 rfl ((s.lit (ty := .slice) 0 rfl [(⟨some ⟨a143, 0, none⟩, 1, 1⟩ : Sl)] 1 rfl rfl).view 0 rfl) b3 fun s148 w211 s => s.st 8 1 rfl rfl rfl fun w212 s => s.st 8 2 rfl rfl rfl fun w213 s => s.st 8 3 rfl rfl rfl fun w214 s => h s145 s146 s148 a143 _ (s.pick [5, 6, 7, 2, 8] 9 rfl (by decide))⟩⟩,
s.allocK fun a149 w215 s => ⟨s.still 8 3 rfl rfl, ⟨s.still 8 2 rfl rfl, s.app 6 rfl ((s.lit (ty := .int .i64) 3 rfl [(1 : Int)] 1 rfl rfl).view 3 rfl) b2 fun s150 w216 s => ⟨s.still 8 3 rfl rfl, s.app 7 rfl ((s.lit (ty := .slice) 0 rfl [(⟨some ⟨a143, 0, none⟩, 1, 1⟩ : Sl)] 1 rfl rfl).view 0 rfl) b3 fun s151 w217 s => s.st 8 1 rfl rfl rfl fun w218 s => s.st 8 2 rfl rfl rfl fun w219 s => s.st 8 3 rfl rfl rfl fun w220 s => h s145 s150 s151 a143 _ (s.pick [5, 6, 7, 2, 8] 9 rfl (by decide))⟩⟩⟩⟩⟩⟩,
s.allocK fun a152 w221 s => ⟨s.still 8 3 rfl rfl, ⟨s.still 8 2 rfl rfl, ⟨s.still 8 1 rfl rfl, s.app 5 rfl ((s.lit (ty := .int .i64) 1 rfl [x1] 1 rfl rfl).view 1 rfl) b1 fun s153 w222 s => ⟨s.still 8 3 rfl rfl, ⟨s.still 8 2 rfl rfl, s.app 6 rfl ((s.lit (ty := .int .i64) 3 rfl [(1 : Int)] 1 rfl rfl).view 3 rfl) b2 fun s154 w223 s => ⟨s.still 8 3 rfl rfl, s.app 7 rfl ((s.lit (ty := .slice) 0 rfl [(⟨some ⟨a143, 0, none⟩, 1, 1⟩ : Sl)] 1 rfl rfl).view 0 rfl) b3 fun s155 w224 s => s.st 8 1 rfl rfl rfl fun w225 s => s.st 8 2 rfl rfl rfl fun w226 s => s.st 8 3 rfl rfl rfl fun w227 s => h s153 s154 s155 a143 _ (s.pick [5, 6, 7, 2, 8] 9 rfl (by decide))⟩⟩⟩⟩⟩⟩⟩⟩⟩⟩,
s.allocK fun a156 w228 s => ⟨s.still 7 3 rfl rfl, ⟨s.still 7 2 rfl rfl, ⟨s.still 7 1 rfl rfl, s.allocK fun a157 w229 s => ⟨s.still 8 3 rfl rfl, ⟨s.still 8 2 rfl rfl, ⟨s.still 8 1 rfl rfl, s.app 5 rfl ((s.lit (ty := .int .i64) 0 rfl [x1] 1 rfl rfl).view 0 rfl) b1 fun s158 w230 s => ⟨s.still 8 3 rfl rfl, ⟨s.still 8 2 rfl rfl, s.app 6 rfl ((s.lit (ty := .int .i64) 3 rfl [(1 : Int)] 1 rfl rfl).view 3 rfl) b2 fun s159 w231 s => ⟨s.still 8 3 rfl rfl, s.app 7 rfl ((s.lit (ty := .slice) 1 rfl [(⟨some ⟨a143, 0, none⟩, 1, 1⟩ : Sl)] 1 rfl rfl).view 1 rfl) b3 fun s160 w232 s => s.st 8 1 rfl rfl rfl fun w233 s => s.st 8 2 rfl rfl rfl fun w234 s => s.st 8 3 rfl rfl rfl fun w235 s => h s158 s159 s160 a143 _ (s.pick [5, 6, 7, 2, 8] 9 rfl (by decide))⟩⟩⟩⟩⟩⟩⟩⟩⟩⟩⟩⟩⟩⟩⟩⟩⟩⟩,
s.allocK fun a161 w236 s => ⟨s.still 5 3 rfl rfl, ⟨s.still 5 2 rfl rfl, ⟨s.still 5 1 rfl rfl, ⟨s.allocK fun a162 w237 s => ⟨s.still 6 3 rfl rfl, ⟨s.still 6 2 rfl rfl, ⟨s.still 6 1 rfl rfl, ⟨s.app 3 rfl ((s.lit (ty := .int .i64) 0 rfl [x1] 1 rfl rfl).view 0 rfl) b1 fun s163 w238 s => ⟨s.still 6 3 rfl rfl, ⟨s.still 6 2 rfl rfl, ⟨s.allocK fun a164 w239 s => ⟨s.still 7 3 rfl rfl, ⟨s.still 7 2 rfl rfl, ⟨s.app 5 rfl ((s.lit (ty := .int .i64) 0 rfl [(1 : Int)] 1 rfl rfl).view 0 rfl) b2 fun s165 w240 s => ⟨s.still 7 3 rfl rfl, s.allocK fun a166 w241 s => ⟨s.still 8 3 rfl rfl, s.app 7 rfl ((s.lit (ty := .slice) 0 rfl [(⟨some ⟨a161, 0, none⟩, 1, 1⟩ : Sl)] 1 rfl rfl).view 0 rfl) b3 fun s167 w242 s => s.st 8 1 rfl rfl rfl fun w243 s => s.st 8 2 rfl rfl rfl fun w244 s => s.st 8 3 rfl rfl rfl fun w245 s => h s163 s165 s167 a161 _ (s.pick [5, 6, 7, 3, 8] 9 rfl (by decide))⟩⟩,
s.allocK fun a168 w246 s => ⟨s.still 8 3 rfl rfl, ⟨s.still 8 2 rfl rfl, s.app 6 rfl ((s.lit (ty := .int .i64) 1 rfl [(1 : Int)] 1 rfl rfl).view 1 rfl) b2 fun s169 w247 s => ⟨s.still 8 3 rfl rfl, s.app 7 rfl ((s.lit (ty := .slice) 0 rfl [(⟨some ⟨a161, 0, none⟩, 1, 1⟩ : Sl)] 1 rfl rfl).view 0 rfl) b3 fun s170 w248 s => s.st 8 1 rfl rfl rfl fun w249 s => s.st 8 2 rfl rfl rfl fun w250 s => s.st 8 3 rfl rfl rfl fun w251 s => h s163 s169 s170 a161 _ (s.pick [5, 6, 7, 3, 8] 9 rfl (by decide))⟩⟩⟩⟩⟩⟩,
s.allocK fun a171 w252 s => ⟨s.still 7 3 rfl rfl, ⟨s.still 7 2 rfl rfl, s.allocK fun a172 w253 s => ⟨s.still 8 3 rfl rfl, ⟨s.still 8 2 rfl rfl, s.app 6 rfl ((s.lit (ty := .int .i64) 0 rfl [(1 : Int)] 1 rfl rfl).view 0 rfl) b2 fun s173 w254 s => ⟨s.still 8 3 rfl rfl, s.app 7 rfl ((s.lit (ty := .slice) 1 rfl [(⟨some ⟨a161, 0, none⟩, 1, 1⟩ : Sl)] 1 rfl rfl).view 1 rfl) b3 fun s174 w255 s => s.st 8 1 rfl rfl rfl fun w256 s => s.st 8 2 rfl rfl rfl fun w257 s => s.st 8 3 rfl rfl rfl fun w258 s => h s163 s173 s174 a161 _ (s.pick [5, 6, 7, 3, 8] 9 rfl (by decide))⟩⟩⟩⟩⟩⟩⟩⟩,
⟨s.allocK fun a175 w259 s => ⟨s.still 7 3 rfl rfl, ⟨s.still 7 2 rfl rfl, ⟨s.still 7 1 rfl rfl, ⟨s.app 4 rfl ((s.lit (ty := .int .i64) 1 rfl [x1] 1 rfl rfl).view 1 rfl) b1 fun s176 w260 s => ⟨s.still 7 3 rfl rfl, ⟨s.still 7 2 rfl rfl, ⟨s.app 5 rfl ((s.lit (ty := .int .i64) 0 rfl [(1 : Int)] 1 rfl rfl).view 0 rfl) b2 fun s177 w261 s => ⟨s.still 7 3 rfl rfl, s.allocK fun a178 w262 s => ⟨s.still 8 3 rfl rfl, s.app 7 rfl ((s.lit (ty := .slice) 0 rfl [(⟨some ⟨a161, 0, none⟩, 1, 1⟩ : Sl)] 1 rfl rfl).view 0 rfl) b3 fun s179 w263 s => s.st 8 1 rfl rfl rfl fun w264 s => s.st 8 2 rfl rfl rfl fun w265 s => s.st 8 3 rfl rfl rfl fun w266 s => h s176 s177 s179 a161 _ (s.pick [5, 6, 7, 3, 8] 9 rfl (by decide))⟩⟩,
s.allocK fun a180 w267 s => ⟨s.still 8 3 rfl rfl, ⟨s.still 8 2 rfl rfl, s.app 6 rfl ((s.lit (ty := .int .i64) 1 rfl [(1 : Int)] 1 rfl rfl).view 1 rfl) b2 fun s181 w268 s => ⟨s.still 8 3 rfl rfl, s.app 7 rfl ((s.lit (ty := .slice) 0 rfl [(⟨some ⟨a161, 0, none⟩, 1, 1⟩ : Sl)] 1 rfl rfl).view 0 rfl) b3 fun s182 w269 s => s.st 8 1 rfl rfl rfl fun w270 s => s.st 8 2 rfl rfl rfl fun w271 s => s.st 8 3 rfl rfl rfl fun w272 s => h s176 s181 s182 a161 _ (s.pick [5, 6, 7, 3, 8] 9 rfl (by decide))⟩⟩⟩⟩⟩⟩,
s.allocK fun a183 w273 s => ⟨s.still 8 3 rfl rfl, ⟨s.still 8 2 rfl rfl, ⟨s.still 8 1 rfl rfl, s.app 5 rfl ((s.lit (ty := .int .i64) 2 rfl [x1] 1 rfl rfl).view 2 rfl) b1 fun s184 w274 s => ⟨s.still 8 3 rfl rfl, ⟨s.still 8 2 rfl rfl, s.app 6 rfl ((s.lit (ty := .int .i64) 1 rfl [(1 : Int)] 1 rfl rfl).view 1 rfl) b2 fun s185 w275 s => ⟨s.still 8 3 rfl rfl, s.app 7 rfl ((s.lit (ty := .slice) 0 rfl [(⟨some ⟨a161, 0, none⟩, 1, 1⟩ : Sl)] 1 rfl rfl).view 0 rfl) b3 fun s186 w276 s => s.st 8 1 rfl rfl rfl fun w277 s => s.st 8 2 rfl rfl rfl fun w278 s => s.st 8 3 rfl rfl rfl fun w279 s => h s184 s185 s186 a161 _ (s.pick [5, 6, 7, 3, 8] 9 rfl (by decide))⟩⟩⟩⟩⟩⟩⟩⟩⟩⟩,
s.allocK fun a187 w280 s => ⟨s.still 7 3 rfl rfl, ⟨s.still 7 2 rfl rfl, ⟨s.still 7 1 rfl rfl, ⟨s.app 4 rfl ((s.lit (ty := .int .i64) 1 rfl [x1] 1 rfl rfl).view 1 rfl) b1 fun s188 w281 s => ⟨s.still 7 3 rfl rfl, ⟨s.still 7 2 rfl rfl, s.allocK fun a189 w282 s => ⟨s.still 8 3 rfl rfl, ⟨s.still 8 2 rfl rfl, s.app 6 rfl ((s.lit (ty := .int .i64) 0 rfl [(1 : Int)] 1 rfl rfl).view 0 rfl) b2 fun s190 w283 s => ⟨s.still 8 3 rfl rfl, s.app 7 rfl ((s.lit (ty := .slice) 1 rfl [(⟨some ⟨a161, 0, none⟩, 1, 1⟩ : Sl)] 1 rfl rfl).view 1 rfl) b3 fun s191 w284 s => s.st 8 1 rfl rfl rfl fun w285 s => s.st 8 2 rfl rfl rfl fun w286 s => s.st 8 3 rfl rfl rfl fun w287 s => h s188 s190 s191 a161 _ (s.pick [5, 6, 7, 3, 8] 9 rfl (by decide))⟩⟩⟩⟩⟩,
s.allocK fun a192 w288 s => ⟨s.still 8 3 rfl rfl, ⟨s.still 8 2 rfl rfl, ⟨s.still 8 1 rfl rfl, s.app 5 rfl ((s.lit (ty := .int .i64) 2 rfl [x1] 1 rfl rfl).view 2 rfl) b1 fun s193 w289 s => ⟨s.still 8 3 rfl rfl, ⟨s.still 8 2 rfl rfl, s.app 6 rfl ((s.lit (ty := .int .i64) 0 rfl [(1 : Int)] 1 rfl rfl).view 0 rfl) b2 fun s194 w290 s => ⟨s.still 8 3 rfl rfl, s.app 7 rfl ((s.lit (ty := .slice) 1 rfl [(⟨some ⟨a161, 0, none⟩, 1, 1⟩ : Sl)] 1 rfl rfl).view 1 rfl) b3 fun s195 w291 s => s.st 8 1 rfl rfl rfl fun w292 s => s.st 8 2 rfl rfl rfl fun w293 s => s.st 8 3 rfl rfl rfl fun w294 s => h s193 s194 s195 a161 _ (s.pick [5, 6, 7, 3, 8] 9 rfl (by decide))⟩⟩⟩⟩⟩⟩⟩⟩⟩⟩⟩⟩⟩⟩⟩,
⟨s.allocK fun a196 w295 s => ⟨s.still 6 3 rfl rfl, ⟨s.still 6 2 rfl rfl, ⟨s.still 6 1 rfl rfl, ⟨s.allocK fun a197 w296 s => ⟨s.still 7 3 rfl rfl, ⟨s.still 7 2 rfl rfl, ⟨s.still 7 1 rfl rfl, ⟨s.app 4 rfl ((s.lit (ty := .int .i64) 0 rfl [x1] 1 rfl rfl).view 0 rfl) b1 fun s198 w297 s => ⟨s.still 7 3 rfl rfl, ⟨s.still 7 2 rfl rfl, ⟨s.app 5 rfl ((s.lit (ty := .int .i64) 1 rfl [(1 : Int)] 1 rfl rfl).view 1 rfl) b2 fun s199 w298 s => ⟨s.still 7 3 rfl rfl, s.allocK fun a200 w299 s => ⟨s.still 8 3 rfl rfl, s.app 7 rfl ((s.lit (ty := .slice) 0 rfl [(⟨some ⟨a161, 0, none⟩, 1, 1⟩ : Sl)] 1 rfl rfl).view 0 rfl) b3 fun s201 w300 s => s.st 8 1 rfl rfl rfl fun w301 s => s.st 8 2 rfl rfl rfl fun w302 s => s.st 8 3 rfl rfl rfl fun w303 s => h s198 s199 s201 a161 _ (s.pick [5, 6, 7, 3, 8] 9 rfl (by decide))⟩⟩,
s.allocK fun a202 w304 s => ⟨s.still 8 3 rfl rfl, ⟨s.still 8 2 rfl rfl, s.app 6 rfl ((s.lit (ty := .int .i64) 2 rfl [(1 : Int)] 1 rfl rfl).view 2 rfl) b2 fun s203 w305 s => ⟨s.still 8 3 rfl rfl, s.app 7 rfl ((s.lit (ty := .slice) 0 rfl [(⟨some ⟨a161, 0, none⟩, 1, 1⟩ : Sl)] 1 rfl rfl).view 0 rfl) b3 fun s204 w306 s => s.st 8 1 rfl rfl rfl fun w307 s => s.st 8 2 rfl rfl rfl fun w308 s => s.st 8 3 rfl rfl rfl fun w309 s => h s198 s203 s204 a161 _ (s.pick [5, 6, 7, 3, 8] 9 rfl (by decide))⟩⟩⟩⟩⟩⟩,
s.allocK fun a205 w310 s => ⟨s.still 8 3 rfl rfl, ⟨s.still 8 2 rfl rfl, ⟨s.still 8 1 rfl rfl, s.app 5 rfl ((s.lit (ty := .int .i64) 1 rfl [x1] 1 rfl rfl).view 1 rfl) b1 fun s206 w311 s => ⟨s.still 8 3 rfl rfl, ⟨s.still 8 2 rfl rfl, s.app 6 rfl ((s.lit (ty := .int .i64) 2 rfl [(1 : Int)] 1 rfl rfl).view 2 rfl) b2 fun s207 w312 s => ⟨s.still 8 3 rfl rfl, s.app 7 rfl ((s.lit (ty := .slice) 0 rfl [(⟨some ⟨a161, 0, none⟩, 1, 1⟩ : Sl)] 1 rfl rfl).view 0 rfl) b3 fun s208 w313 s => s.st 8 1 rfl rfl rfl fun w314 s => s.st 8 2 rfl rfl rfl fun w315 s => s.st 8 3 rfl rfl rfl fun w316 s => h s206 s207 s208 a161 _ (s.pick [5, 6, 7, 3, 8] 9 rfl (by decide))⟩⟩⟩⟩⟩⟩⟩⟩⟩⟩,
s.allocK fun a209 w317 s => ⟨s.still 7 3 rfl rfl, ⟨s.still 7 2 rfl rfl, ⟨s.still 7 1 rfl rfl, s.allocK fun a210 w318 s => ⟨s.still 8 3 rfl rfl, ⟨s.still 8 2 rfl rfl, ⟨s.still 8 1 rfl rfl, s.app 5 rfl ((s.lit (ty := .int .i64) 0 rfl [x1] 1 rfl rfl).view 0 rfl) b1 fun s211 w319 s => ⟨s.still 8 3 rfl rfl, ⟨s.still 8 2 rfl rfl, s.app 6 rfl ((s.lit (ty := .int .i64) 2 rfl [(1 : Int)] 1 rfl rfl).view 2 rfl) b2 fun s212 w320 s => ⟨s.still 8 3 rfl rfl, s.app 7 rfl ((s.lit (ty := .slice) 1 rfl [(⟨some ⟨a161, 0, none⟩, 1, 1⟩ : Sl)] 1 rfl rfl).view 1 rfl) b3 fun s213 w321 s => s.st 8 1 rfl rfl rfl fun w322 s => s.st 8 2 rfl rfl rfl fun w323 s => s.st 8 3 rfl rfl rfl fun w324 s => h s211 s212 s213 a161 _ (s.pick [5, 6, 7, 3, 8] 9 rfl (by decide))⟩⟩⟩⟩⟩⟩⟩⟩⟩⟩⟩⟩⟩,
s.allocK fun a214 w325 s => ⟨s.still 6 3 rfl rfl, ⟨s.still 6 2 rfl rfl, ⟨s.still 6 1 rfl rfl, ⟨s.allocK fun a215 w326 s => ⟨s.still 7 3 rfl rfl, ⟨s.still 7 2 rfl rfl, ⟨s.still 7 1 rfl rfl, ⟨s.app 4 rfl ((s.lit (ty := .int .i64) 0 rfl [x1] 1 rfl rfl).view 0 rfl) b1 fun s216 w327 s => ⟨s.still 7 3 rfl rfl, ⟨s.still 7 2 rfl rfl, s.allocK fun a217 w328 s => ⟨s.still 8 3 rfl rfl, ⟨s.still 8 2 rfl rfl, s.app 6 rfl ((s.lit (ty := .int .i64) 0 rfl [(1 : Int)] 1 rfl rfl).view 0 rfl) b2 fun s218 w329 s => ⟨s.still 8 3 rfl rfl, s.app 7 rfl ((s.lit (ty := .slice) 2 rfl [(⟨some ⟨a161, 0, none⟩, 1, 1⟩ : Sl)] 1 rfl rfl).view 2 rfl) b3 fun s219 w330 s => s.st 8 1 rfl rfl rfl fun w331 s => s.st 8 2 rfl rfl rfl fun w332 s => s.st 8 3 rfl rfl rfl fun w333 s => h s216 s218 s219 a161 _ (s.pick [5, 6, 7, 3, 8] 9 rfl (by decide))⟩⟩⟩⟩⟩,
s.allocK fun a220 w334 s => ⟨s.still 8 3 rfl rfl, ⟨s.still 8 2 rfl rfl, ⟨s.still 8 1 rfl rfl, s.app 5 rfl ((s.lit (ty := .int .i64) 1 rfl [x1] 1 rfl rfl).view 1 rfl) b1 fun s221 w335 s => ⟨s.still 8 3 rfl rfl, ⟨s.still 8 2 rfl rfl, s.app 6 rfl ((s.lit (ty := .int .i64) 0 rfl [(1 : Int)] 1 rfl rfl).view 0 rfl) b2 fun s222 w336 s => ⟨s.still 8 3 rfl rfl, s.app 7 rfl ((s.lit (ty := .slice) 2 rfl [(⟨some ⟨a161, 0, none⟩, 1, 1⟩ : Sl)] 1 rfl rfl).view 2 rfl) b3 fun s223 w337 s => s.st 8 1 rfl rfl rfl fun w338 s => s.st 8 2 rfl rfl rfl fun w339 s => s.st 8 3 rfl rfl rfl fun w340 s => h s221 s222 s223 a161 _ (s.pick [5, 6, 7, 3, 8] 9 rfl (by decide))⟩⟩⟩⟩⟩⟩⟩⟩⟩⟩,
s.allocK fun a224 w341 s => ⟨s.still 7 3 rfl rfl, ⟨s.still 7 2 rfl rfl, ⟨s.still 7 1 rfl rfl, s.allocK fun a225 w342 s => ⟨s.still 8 3 rfl rfl, ⟨s.still 8 2 rfl rfl, ⟨s.still 8 1 rfl rfl, s.app 5 rfl ((s.lit (ty := .int .i64) 0 rfl [x1] 1 rfl rfl).view 0 rfl) b1 fun s226 w343 s => ⟨s.still 8 3 rfl rfl, ⟨s.still 8 2 rfl rfl, s.app 6 rfl ((s.lit (ty := .int .i64) 1 rfl [(1 : Int)] 1 rfl rfl).view 1 rfl) b2 fun s227 w344 s => ⟨s.still 8 3 rfl rfl, s.app 7 rfl ((s.lit (ty := .slice) 2 rfl [(⟨some ⟨a161, 0, none⟩, 1, 1⟩ : Sl)] 1 rfl rfl).view 2 rfl) b3 fun s228 w345 s => s.st 8 1 rfl rfl rfl fun w346 s => s.st 8 2 rfl rfl rfl fun w347 s => s.st 8 3 rfl rfl rfl fun w348 s => h s226 s227 s228 a161 _ (s.pick [5, 6, 7, 3, 8] 9 rfl (by decide))⟩⟩⟩⟩⟩⟩⟩⟩⟩⟩⟩⟩⟩⟩⟩⟩⟩⟩⟩⟩
  · -- a join
    have hjs : sJoin o = true ∧ ¬ ts.length = 0 := by
      cases e : sJoin o
      · rw [e] at c; simp at c
      · rw [e] at c; exact ⟨rfl, by simpa using c⟩
    have hidl : (ids.len : Int) = (ts.length : Int) := by omega
    obtain ⟨ka, ea1, ea2, ea3⟩ := emodN (n := ts.length) (by omega) hok.a.1
    obtain ⟨kb, eb1, eb2, eb3⟩ := emodN (n := ts.length) (by omega) hok.b.1
    obtain ⟨ta, hta⟩ : ∃ ta, ts[ka]? = some ta := ⟨_, List.getElem?_eq_getElem ea2⟩
    obtain ⟨tb, htb⟩ : ∃ tb, ts[kb]? = some tb := ⟨_, List.getElem?_eq_getElem eb2⟩
    obtain ⟨xa, hxa⟩ : ∃ xa, is[ka]? = some xa := ⟨_, List.getElem?_eq_getElem (by omega)⟩
    obtain ⟨xb, hxb⟩ : ∃ xb, is[kb]? = some xb := ⟨_, List.getElem?_eq_getElem (by omega)⟩
    obtain ⟨da, na⟩ := hf.nd ka xa ta hxa hta
    obtain ⟨db, nb⟩ := hf.nd kb xb tb hxb htb
    have la := na.bound hg
    have lb := nb.bound hg
    have fa : txAt ts (sA o) = ta := by unfold txAt; rw [ea3, List.getD_eq_getElem?_getD, hta]; rfl
    have fb : txAt ts (sB o) = tb := by unfold txAt; rw [eb3, List.getD_eq_getElem?_getD, htb]; rfl
    have hla : (lensT ts)[ka]? = some (ta.length : Int) := by unfold lensT; rw [List.getElem?_map, hta]; rfl
    have hlb : (lensT ts)[kb]? = some (tb.length : Int) := by unfold lensT; rw [List.getElem?_map, htb]; rfl
    refine s.drawK fun w349 s => s.ldi (x := sA o) 0 2 rfl rfl (arith_i64 (by have := hok.a; omega) (by have := hok.a; omega) ⟨by omega, ?_⟩)
    rw [hidl]
    refine letZ_mk (s.ldi (x := sB o) 0 3 rfl rfl (arith_i64 (by have := hok.b; omega) (by have := hok.b; omega) ⟨by omega, letZ_mk ?_⟩))
    rw [ea1, eb1]
    refine s.drawK fun w350 s => s.lds (x := lens) 4 2 rfl rfl ((s.view 2 rfl).idx (n := ka) rfl hla rfl fun q1 hq1 => ⟨_, hq1, s.lds (x := lens) 4 2 rfl rfl ((s.view 2 rfl).idx (n := kb) rfl hlb rfl fun q2 hq2 => ⟨_, hq2, arith_i64 (by omega) (by omega) (gd_dec (fun hgt => ?_) (fun hle => ?_))⟩)⟩)
    · have hst : btStep ts o = ts := by
        unfold btStep
        rw [if_neg (by rw [hjs.1]; simp; exact fun e => hjs.2 (by simp [e])), fa, fb, if_pos hgt]
      rw [hst]
      exact ⟨T, ids, lens, txs, is, sls, hf, hsl, by omega, s.pop⟩
    have hst : btStep ts o = ts ++ [ta ++ tb] := by
      unfold btStep
      rw [if_neg (by rw [hjs.1]; simp; exact fun e => hjs.2 (by simp [e])), fa, fb, if_neg hle]
    rw [hst]
    refine s.drawK fun w351 s => s.ldp (x := some p) 4 0 rfl rfl (s.lds (x := ids) 4 1 rfl rfl ((s.view 1 rfl).idx (n := ka) rfl hxa rfl fun q3 hq3 => ⟨_, hq3, s.lds (x := ids) 4 1 rfl rfl ((s.view 1 rfl).idx (n := kb) rfl hxb rfl fun q4 hq4 => ⟨_, hq4, ?_⟩)⟩))
    refine avl_Join_sp s 6 rfl na.nd0 nb.nd0 (by omega) fun T1 xr w352 r1 s => ?_
    have dda := na.nd0.deep hg
    have ddb := nb.nd0.deep hg
    have hN : joinN xa xb da db ≤ 259 := by unfold joinN; split <;> omega
    obtain ⟨x1, er⟩ := xr
    have hl1 := r1.len
    rcases r1.out with ⟨e1, d, n1, _⟩ | ⟨_, hbad⟩
    rotate_left
    · omega
    dsimp only at e1 n1
    subst e1
    have lta := na.len hg
    have n2 : Nd T1 x1 (ta ++ tb) d := n1.nd fun e => by
      subst e
      have := n1.nil.1
      have := congrArg List.length this
      rw [List.length_append, List.length_nil] at this
      omega
    refine nilIfc_nil (gd_f rfl ?_)
    refine ⟨fun x w => Sp w0 (own (.int .u8) x.1 (clipT (ta ++ tb)) :: cel a18 (cells yevergreenlaw14_Step o) :: own (.int .i64) ids is :: own (.int .i64) lens (lensT ts) :: own .slice txs sls :: cel a3 (cells yevergreenlaw14_Made (some p, ids, lens, txs)) :: tvs sls (ts.map clipT) :: sto p 1048576 T1 :: cel a1 [.pointer none, .slice none 0 0, .slice none 0 0, .slice none 0 0] :: Ω) w, ?_, ?_⟩
    · have s : Sp w0 (cel a18 (cells yevergreenlaw14_Step o) :: own (.int .i64) ids is :: own (.int .i64) lens (lensT ts) :: own .slice txs sls :: cel a3 (cells yevergreenlaw14_Made (some p, ids, lens, txs)) :: tvs sls (ts.map clipT) :: sto p 1048576 T1 :: cel a1 [.pointer none, .slice none 0 0, .slice none 0 0, .slice none 0 0] :: Ω) w352 := s
      refine gd_dec (fun h4 => ?_) (fun h4 => ?_)
      · have ca : clipT ta = ta := if_pos (by omega)
        have cb : clipT tb = tb := if_pos (by omega)
        have cab : clipT (ta ++ tb) = ta ++ tb := if_pos (by rw [List.length_append]; omega)
        rw [cab]
        have va : (ts.map clipT)[ka]? = some ta := by rw [List.getElem?_map, hta, Option.map_some, ca]
        have vb : (ts.map clipT)[kb]? = some tb := by rw [List.getElem?_map, htb, Option.map_some, cb]
        obtain ⟨sa, hsa⟩ : ∃ sa, sls[ka]? = some sa := ⟨_, List.getElem?_eq_getElem (by omega)⟩
        obtain ⟨sb, hsb⟩ : ∃ sb, sls[kb]? = some sb := ⟨_, List.getElem?_eq_getElem (by omega)⟩
        refine s.drawK fun w355 s => s.lds (x := txs) 4 3 rfl rfl ((s.view 3 rfl).idx (n := ka) rfl hsa rfl fun q5 hq5 => ⟨_, hq5, s.lds (x := txs) 4 3 rfl rfl ((s.view 3 rfl).idx2 (n := kb) rfl hsb rfl fun q6 hq6 => ⟨_, hq6 _ (s.view 3 rfl), ?_⟩)⟩)
        refine (s.nil (.int .u8)).app 0 rfl ((Sp.tvs_ s 5 rfl).2 ka sa ta hsa va).1 (by simp only [List.length_nil]; omega) fun s261 w356 s => ⟨hq6 _ (s.view 4 rfl), s.still 5 3 rfl rfl, ?_⟩
        exact s.app 0 rfl ((Sp.tvs_ s 6 rfl).2 kb sb tb hsb vb).1 (by simp only [List.nil_append]; omega) fun s262 w357 s => s
      · have cab : clipT (ta ++ tb) = [] := if_neg (by rw [List.length_append]; omega)
        rw [cab]
        exact s.nil (.int .u8)
    rintro ⟨sx, _⟩ w354 s _
    dsimp only at s ⊢
    have s : Sp w0 (cel a18 (cells yevergreenlaw14_Step o) :: own (.int .i64) ids is :: own (.int .i64) lens (lensT ts) :: own .slice txs sls :: cel a3 (cells yevergreenlaw14_Made (some p, ids, lens, txs)) :: own (.int .u8) sx (clipT (ta ++ tb)) :: tvs sls (ts.map clipT) :: sto p 1048576 T1 :: cel a1 [.pointer none, .slice none 0 0, .slice none 0 0, .slice none 0 0] :: Ω) w354 := s.pick [1, 2, 3, 4, 5, 0] 6 rfl (by decide)
    refine s.drawK fun w358 s => s.lds (x := ids) 4 1 rfl rfl (s.lds (x := lens) 4 2 rfl rfl (s.lds (x := txs) 4 3 rfl rfl ?_))
    have h : ∀ (ids' lens' txs' : Sl) (w : World), Sp w0 (own (.int .i64) ids' (is ++ [x1]) :: own (.int .i64) lens' (lensT ts ++ [((ta.length : Int) + (tb.length : Int))]) :: own .slice txs' (sls ++ [sx]) :: cel a3 (cells yevergreenlaw14_Made (some p, ids', lens', txs')) :: own (.int .u8) sx (clipT (ta ++ tb)) :: tvs sls (ts.map clipT) :: sto p 1048576 T1 :: cel a1 [.pointer none, .slice none 0 0, .slice none 0 0, .slice none 0 0] :: Ω) w →
        ∃ (T : List ET) (ids lens txs : Sl) (is : List (Ty.int .i64).T) (sls : List Ty.slice.T), Fine T is (ts ++ [ta ++ tb]) ∧ sls.length = (ts ++ [ta ++ tb]).length ∧ T.length ≤ 260 * (n + 1) ∧
          Sp w0 (own (.int .i64) ids is :: own (.int .i64) lens (lensT (ts ++ [ta ++ tb])) :: own .slice txs sls :: cel a3 (cells yevergreenlaw14_Made (some p, ids, lens, txs)) :: tvs sls ((ts ++ [ta ++ tb]).map clipT) :: sto p 1048576 T :: cel a1 [.pointer none, .slice none 0 0, .slice none 0 0, .slice none 0 0] :: Ω) w := by
      intro ids' lens' txs' w s
      refine ⟨T1, ids', lens', txs', is ++ [x1], sls ++ [sx], (hf.ext r1.ext).snoc n2, by simp [hsl], by omega, ?_⟩
      have e : (((ta ++ tb).length : Nat) : Int) = (ta.length : Int) + tb.length := by rw [List.length_append]; omega
      rw [clip_snoc, lens_snoc, e]
      have s3 := s.pull 4 rfl
      have s4 := Sp.tvs_add s3 4 rfl
      exact s4.pick [1, 2, 3, 4, 0, 6, 7] 8 rfl (by decide)
    exact ⟨s.allocK fun a266 w359 s => ⟨s.still 5 3 rfl rfl, ⟨s.still 5 2 rfl rfl, ⟨s.still 5 1 rfl rfl, ⟨s.app 2 rfl ((s.lit (ty := .int .i64) 0 rfl [x1] 1 rfl rfl).view 0 rfl) b1 fun s267 w360 s => ⟨s.still 5 3 rfl rfl, ⟨s.still 5 2 rfl rfl, ⟨s.allocK fun a268 w361 s => ⟨s.still 6 3 rfl rfl, ⟨s.still 6 2 rfl rfl, ⟨s.app 4 rfl ((s.lit (ty := .int .i64) 0 rfl [((ta.length : Int) + (tb.length : Int))] 1 rfl rfl).view 0 rfl) b2 fun s269 w362 s => ⟨s.still 6 3 rfl rfl, s.allocK fun a270 w363 s => ⟨s.still 7 3 rfl rfl, s.app 6 rfl ((s.lit (ty := .slice) 0 rfl [sx] 1 rfl rfl).view 0 rfl) b3 fun s271 w364 s => s.st 7 1 rfl rfl rfl fun w365 s => s.st 7 2 rfl rfl rfl fun w366 s => s.st 7 3 rfl rfl rfl fun w367 s => h s267 s269 s271 _ (s.pick [4, 5, 6, 7] 8 rfl (by decide))⟩⟩,
s.allocK fun a272 w368 s => ⟨s.still 7 3 rfl rfl, ⟨s.still 7 2 rfl rfl, s.app 5 rfl ((s.lit (ty := .int .i64) 1 rfl [((ta.length : Int) + (tb.length : Int))] 1 rfl rfl).view 1 rfl) b2 fun s273 w369 s => ⟨s.still 7 3 rfl rfl, s.app 6 rfl ((s.lit (ty := .slice) 0 rfl [sx] 1 rfl rfl).view 0 rfl) b3 fun s274 w370 s => s.st 7 1 rfl rfl rfl fun w371 s => s.st 7 2 rfl rfl rfl fun w372 s => s.st 7 3 rfl rfl rfl fun w373 s => h s267 s273 s274 _ (s.pick [4, 5, 6, 7] 8 rfl (by decide))⟩⟩⟩⟩⟩⟩,
s.allocK fun a275 w374 s => ⟨s.still 6 3 rfl rfl, ⟨s.still 6 2 rfl rfl, s.allocK fun a276 w375 s => ⟨s.still 7 3 rfl rfl, ⟨s.still 7 2 rfl rfl, s.app 5 rfl ((s.lit (ty := .int .i64) 0 rfl [((ta.length : Int) + (tb.length : Int))] 1 rfl rfl).view 0 rfl) b2 fun s277 w376 s => ⟨s.still 7 3 rfl rfl, s.app 6 rfl ((s.lit (ty := .slice) 1 rfl [sx] 1 rfl rfl).view 1 rfl) b3 fun s278 w377 s => s.st 7 1 rfl rfl rfl fun w378 s => s.st 7 2 rfl rfl rfl fun w379 s => s.st 7 3 rfl rfl rfl fun w380 s => h s267 s277 s278 _ (s.pick [4, 5, 6, 7] 8 rfl (by decide))⟩⟩⟩⟩⟩⟩⟩⟩,
⟨s.allocK fun a279 w381 s => ⟨s.still 6 3 rfl rfl, ⟨s.still 6 2 rfl rfl, ⟨s.still 6 1 rfl rfl, ⟨s.app 3 rfl ((s.lit (ty := .int .i64) 1 rfl [x1] 1 rfl rfl).view 1 rfl) b1 fun s280 w382 s => ⟨s.still 6 3 rfl rfl, ⟨s.still 6 2 rfl rfl, ⟨s.app 4 rfl ((s.lit (ty := .int .i64) 0 rfl [((ta.length : Int) + (tb.length : Int))] 1 rfl rfl).view 0 rfl) b2 fun s281 w383 s => ⟨s.still 6 3 rfl rfl, s.allocK fun a282 w384 s => ⟨s.still 7 3 rfl rfl, s.app 6 rfl ((s.lit (ty := .slice) 0 rfl [sx] 1 rfl rfl).view 0 rfl) b3 fun s283 w385 s => s.st 7 1 rfl rfl rfl fun w386 s => s.st 7 2 rfl rfl rfl fun w387 s => s.st 7 3 rfl rfl rfl fun w388 s => h s280 s281 s283 _ (s.pick [4, 5, 6, 7] 8 rfl (by decide))⟩⟩,
s.allocK fun a284 w389 s => ⟨s.still 7 3 rfl rfl, ⟨s.still 7 2 rfl rfl, s.app 5 rfl ((s.lit (ty := .int .i64) 1 rfl [((ta.length : Int) + (tb.length : Int))] 1 rfl rfl).view 1 rfl) b2 fun s285 w390 s => ⟨s.still 7 3 rfl rfl, s.app 6 rfl ((s.lit (ty := .slice) 0 rfl [sx] 1 rfl rfl).view 0 rfl) b3 fun s286 w391 s => s.st 7 1 rfl rfl rfl fun w392 s => s.st 7 2 rfl rfl rfl fun w393 s => s.st 7 3 rfl rfl rfl fun w394 s => h s280 s285 s286 _ (s.pick [4, 5, 6, 7] 8 rfl (by decide))⟩⟩⟩⟩⟩⟩,
s.allocK fun a287 w395 s => ⟨s.still 7 3 rfl rfl, ⟨s.still 7 2 rfl rfl, ⟨s.still 7 1 rfl rfl, s.app 4 rfl ((s.lit (ty := .int .i64) 2 rfl [x1] 1 rfl rfl).view 2 rfl) b1 fun s288 w396 s => ⟨s.still 7 3 rfl rfl, ⟨s.still 7 2 rfl rfl, s.app 5 rfl ((s.lit (ty := .int .i64) 1 rfl [((ta.length : Int) + (tb.length : Int))] 1 rfl rfl).view 1 rfl) b2 fun s289 w397 s => ⟨s.still 7 3 rfl rfl, s.app 6 rfl ((s.lit (ty := .slice) 0 rfl [sx] 1 rfl rfl).view 0 rfl) b3 fun s290 w398 s => s.st 7 1 rfl rfl rfl fun w399 s => s.st 7 2 rfl rfl rfl fun w400 s => s.st 7 3 rfl rfl rfl fun w401 s => h s288 s289 s290 _ (s.pick [4, 5, 6, 7] 8 rfl (by decide))⟩⟩⟩⟩⟩⟩⟩⟩⟩⟩,
s.allocK fun a291 w402 s => ⟨s.still 6 3 rfl rfl, ⟨s.still 6 2 rfl rfl, ⟨s.still 6 1 rfl rfl, ⟨s.app 3 rfl ((s.lit (ty := .int .i64) 1 rfl [x1] 1 rfl rfl).view 1 rfl) b1 fun s292 w403 s => ⟨s.still 6 3 rfl rfl, ⟨s.still 6 2 rfl rfl, s.allocK fun a293 w404 s => ⟨s.still 7 3 rfl rfl, ⟨s.still 7 2 rfl rfl, s.app 5 rfl ((s.lit (ty := .int .i64) 0 rfl [((ta.length : Int) + (tb.length : Int))] 1 rfl rfl).view 0 rfl) b2 fun s294 w405 s => ⟨s.still 7 3 rfl rfl, s.app 6 rfl ((s.lit (ty := .slice) 1 rfl [sx] 1 rfl rfl).view 1 rfl) b3 fun s295 w406 s => s.st 7 1 rfl rfl rfl fun w407 s => s.st 7 2 rfl rfl rfl fun w408 s => s.st 7 3 rfl rfl rfl fun w409 s => h s292 s294 s295 _ (s.pick [4, 5, 6, 7] 8 rfl (by decide))⟩⟩⟩⟩⟩,
s.allocK fun a296 w410 s => ⟨s.still 7 3 rfl rfl, ⟨s.still 7 2 rfl rfl, ⟨s.still 7 1 rfl rfl, s.app 4 rfl ((s.lit (ty := .int .i64) 2 rfl [x1] 1 rfl rfl).view 2 rfl) b1 fun s297 w411 s => ⟨s.still 7 3 rfl rfl, ⟨s.still 7 2 rfl rfl, s.app 5 rfl ((s.lit (ty := .int .i64) 0 rfl [((ta.length : Int) + (tb.length : Int))] 1 rfl rfl).view 0 rfl) b2 fun s298 w412 s => ⟨s.still 7 3 rfl rfl, s.app 6 rfl ((s.lit (ty := .slice) 1 rfl [sx] 1 rfl rfl).view 1 rfl) b3 fun s299 w413 s => s.st 7 1 rfl rfl rfl fun w414 s => s.st 7 2 rfl rfl rfl fun w415 s => s.st 7 3 rfl rfl rfl fun w416 s => h s297 s298 s299 _ (s.pick [4, 5, 6, 7] 8 rfl (by decide))⟩⟩⟩⟩⟩⟩⟩⟩⟩⟩⟩⟩⟩⟩⟩,
⟨s.allocK fun a300 w417 s => ⟨s.still 5 3 rfl rfl, ⟨s.still 5 2 rfl rfl, ⟨s.still 5 1 rfl rfl, ⟨s.allocK fun a301 w418 s => ⟨s.still 6 3 rfl rfl, ⟨s.still 6 2 rfl rfl, ⟨s.still 6 1 rfl rfl, ⟨s.app 3 rfl ((s.lit (ty := .int .i64) 0 rfl [x1] 1 rfl rfl).view 0 rfl) b1 fun s302 w419 s => ⟨s.still 6 3 rfl rfl, ⟨s.still 6 2 rfl rfl, ⟨s.app 4 rfl ((s.lit (ty := .int .i64) 1 rfl [((ta.length : Int) + (tb.length : Int))] 1 rfl rfl).view 1 rfl) b2 fun s303 w420 s => ⟨s.still 6 3 rfl rfl, s.allocK fun a304 w421 s => ⟨s.still 7 3 rfl rfl, s.app 6 rfl ((s.lit (ty := .slice) 0 rfl [sx] 1 rfl rfl).view 0 rfl) b3 fun s305 w422 s => s.st 7 1 rfl rfl rfl fun w423 s => s.st 7 2 rfl rfl rfl fun w424 s => s.st 7 3 rfl rfl rfl fun w425 s => h s302 s303 s305 _ (s.pick [4, 5, 6, 7] 8 rfl (by decide))⟩⟩,
s.allocK fun a306 w426 s => ⟨s.still 7 3 rfl rfl, ⟨s.still 7 2 rfl rfl, s.app 5 rfl ((s.lit (ty := .int .i64) 2 rfl [((ta.length : Int) + (tb.length : Int))] 1 rfl rfl).view 2 rfl) b2 fun s307 w427 s => ⟨s.still 7 3 rfl rfl, s.app 6 rfl ((s.lit (ty := .slice) 0 rfl [sx] 1 rfl rfl).view 0 rfl) b3 fun s308 w428 s => s.st 7 1 rfl rfl rfl fun w429 s => s.st 7 2 rfl rfl rfl fun w430 s => s.st 7 3 rfl rfl rfl fun w431 s => h s302 s307 s308 _ (s.pick [4, 5, 6, 7] 8 rfl (by decide))⟩⟩⟩⟩⟩⟩,
s.allocK fun a309 w432 s => ⟨s.still 7 3 rfl rfl, ⟨s.still 7 2 rfl rfl, ⟨s.still 7 1 rfl rfl, s.app 4 rfl ((s.lit (ty := .int .i64) 1 rfl [x1] 1 rfl rfl).view 1 rfl) b1 fun s310 w433 s => ⟨s.still 7 3 rfl rfl, ⟨s.still 7 2 rfl rfl, s.app 5 rfl ((s.lit (ty := .int .i64) 2 rfl [((ta.length : Int) + (tb.length : Int))] 1 rfl rfl).view 2 rfl) b2 fun s311 w434 s => ⟨s.still 7 3 rfl rfl, s.app 6 rfl ((s.lit (ty := .slice) 0 rfl [sx] 1 rfl rfl).view 0 rfl) b3 fun s312 w435 s => s.st 7 1 rfl rfl rfl fun w436 s => s.st 7 2 rfl rfl rfl fun w437 s => s.st 7 3 rfl rfl rfl fun w438 s => h s310 s311 s312 _ (s.pick [4, 5, 6, 7] 8 rfl (by decide))⟩⟩⟩⟩⟩⟩⟩⟩⟩⟩,
s.allocK fun a313 w439 s => ⟨s.still 6 3 rfl rfl, ⟨s.still 6 2 rfl rfl, ⟨s.still 6 1 rfl rfl, s.allocK fun a314 w440 s => ⟨s.still 7 3 rfl rfl, ⟨s.still 7 2 rfl rfl, ⟨s.still 7 1 rfl rfl, s.app 4 rfl ((s.lit (ty := .int .i64) 0 rfl [x1] 1 rfl rfl).view 0 rfl) b1 fun s315 w441 s => ⟨s.still 7 3 rfl rfl, ⟨s.still 7 2 rfl rfl, s.app 5 rfl ((s.lit (ty := .int .i64) 2 rfl [((ta.length : Int) + (tb.length : Int))] 1 rfl rfl).view 2 rfl) b2 fun s316 w442 s => ⟨s.still 7 3 rfl rfl, s.app 6 rfl ((s.lit (ty := .slice) 1 rfl [sx] 1 rfl rfl).view 1 rfl) b3 fun s317 w443 s => s.st 7 1 rfl rfl rfl fun w444 s => s.st 7 2 rfl rfl rfl fun w445 s => s.st 7 3 rfl rfl rfl fun w446 s => h s315 s316 s317 _ (s.pick [4, 5, 6, 7] 8 rfl (by decide))⟩⟩⟩⟩⟩⟩⟩⟩⟩⟩⟩⟩⟩,
s.allocK fun a318 w447 s => ⟨s.still 5 3 rfl rfl, ⟨s.still 5 2 rfl rfl, ⟨s.still 5 1 rfl rfl, ⟨s.allocK fun a319 w448 s => ⟨s.still 6 3 rfl rfl, ⟨s.still 6 2 rfl rfl, ⟨s.still 6 1 rfl rfl, ⟨s.app 3 rfl ((s.lit (ty := .int .i64) 0 rfl [x1] 1 rfl rfl).view 0 rfl) b1 fun s320 w449 s => ⟨s.still 6 3 rfl rfl, ⟨s.still 6 2 rfl rfl, s.allocK fun a321 w450 s => ⟨s.still 7 3 rfl rfl, ⟨s.still 7 2 rfl rfl, s.app 5 rfl ((s.lit (ty := .int .i64) 0 rfl [((ta.length : Int) + (tb.length : Int))] 1 rfl rfl).view 0 rfl) b2 fun s322 w451 s => ⟨s.still 7 3 rfl rfl, s.app 6 rfl ((s.lit (ty := .slice) 2 rfl [sx] 1 rfl rfl).view 2 rfl) b3 fun s323 w452 s => s.st 7 1 rfl rfl rfl fun w453 s => s.st 7 2 rfl rfl rfl fun w454 s => s.st 7 3 rfl rfl rfl fun w455 s => h s320 s322 s323 _ (s.pick [4, 5, 6, 7] 8 rfl (by decide))⟩⟩⟩⟩⟩,
s.allocK fun a324 w456 s => ⟨s.still 7 3 rfl rfl, ⟨s.still 7 2 rfl rfl, ⟨s.still 7 1 rfl rfl, s.app 4 rfl ((s.lit (ty := .int .i64) 1 rfl [x1] 1 rfl rfl).view 1 rfl) b1 fun s325 w457 s => ⟨s.still 7 3 rfl rfl, ⟨s.still 7 2 rfl rfl, s.app 5 rfl ((s.lit (ty := .int .i64) 0 rfl [((ta.length : Int) + (tb.length : Int))] 1 rfl rfl).view 0 rfl) b2 fun s326 w458 s => ⟨s.still 7 3 rfl rfl, s.app 6 rfl ((s.lit (ty := .slice) 2 rfl [sx] 1 rfl rfl).view 2 rfl) b3 fun s327 w459 s => s.st 7 1 rfl rfl rfl fun w460 s => s.st 7 2 rfl rfl rfl fun w461 s => s.st 7 3 rfl rfl rfl fun w462 s => h s325 s326 s327 _ (s.pick [4, 5, 6, 7] 8 rfl (by decide))⟩⟩⟩⟩⟩⟩⟩⟩⟩⟩,
s.allocK fun a328 w463 s => ⟨s.still 6 3 rfl rfl, ⟨s.still 6 2 rfl rfl, ⟨s.still 6 1 rfl rfl, s.allocK fun a329 w464 s => ⟨s.still 7 3 rfl rfl, ⟨s.still 7 2 rfl rfl, ⟨s.still 7 1 rfl rfl, s.app 4 rfl ((s.lit (ty := .int .i64) 0 rfl [x1] 1 rfl rfl).view 0 rfl) b1 fun s330 w465 s => ⟨s.still 7 3 rfl rfl, ⟨s.still 7 2 rfl rfl, s.app 5 rfl ((s.lit (ty := .int .i64) 1 rfl [((ta.length : Int) + (tb.length : Int))] 1 rfl rfl).view 1 rfl) b2 fun s331 w466 s => ⟨s.still 7 3 rfl rfl, s.app 6 rfl ((s.lit (ty := .slice) 2 rfl [sx] 1 rfl rfl).view 2 rfl) b3 fun s332 w467 s => s.st 7 1 rfl rfl rfl fun w468 s => s.st 7 2 rfl rfl rfl fun w469 s => s.st 7 3 rfl rfl rfl fun w470 s => h s330 s331 s332 _ (s.pick [4, 5, 6, 7] 8 rfl (by decide))⟩⟩⟩⟩⟩⟩⟩⟩⟩⟩⟩⟩⟩⟩⟩

end Go.Proofs.Ytgbledjehnojeaa

/- Section and Cut as a whole; what split answers where it refuses; ranges; parts of a text. -/
set_option linter.unusedVariables false
set_option linter.unusedSimpArgs false
namespace Go.Proofs.Ytgbledjehnojeaa
open Go.Den

variable {w0 w : World} {Ω : List Ob} {p : Addr} {most : Int} {T : List ET} {i : Nat}

/-- a part of a slice -/
theorem View.part {ty : Ty} {s : Sl} {xs : List ty.T} {K : Sl → Prop} {sz l h : Nat} {lo hi : Option Int} (n : s.len = xs.length) (hl : (lo = none ∧ l = 0) ∨ lo = some (l : Int)) (hh : (hi = none ∧ h = xs.length) ∨ hi = some (h : Int)) (hlh : l ≤ h) (hn : h ≤ xs.length) (hc : s.len ≤ s.cap)
    (k : ∀ s', (∀ w', View ty w' s xs → View ty w' s' ((xs.take h).drop l)) → s'.len ≤ s'.cap → K s') (hs : sz = ty.size := by rfl) : slK sz s.a s.len s.cap lo hi K := by
  subst hs
  have core : ∀ L H : Nat, L = l → H = h → K ⟨(if s.cap = L then s.a else s.a.map (·.add (L * ty.size))), H - L, s.cap - L⟩ := by
    rintro L H rfl rfl
    refine k _ (fun w' v => ⟨?_, fun q hq => ?_, fun hne => ?_⟩) ?_
    · simp only [List.length_drop, List.length_take]; omega
    · dsimp only at hq
      split at hq
      · rename_i c
        have : (xs.take H).drop L = [] := by apply List.drop_of_length_le; simp only [List.length_take]; omega
        rw [this]
        intro j v hj
        simp [flat] at hj
      · cases ha : s.a with
        | none => rw [ha] at hq; cases hq
        | some a =>
          rw [ha] at hq
          simp only [Option.map_some, Option.some.injEq] at hq
          subst hq
          refine (v.mem a ha).sub _ ?_
          have e : flat ty xs = flat ty (xs.take L) ++ (flat ty ((xs.take H).drop L) ++ flat ty (xs.drop H)) := by
            rw [← flat_append, ← flat_append]
            congr 1
            have h1 : (xs.take H).take L ++ (xs.take H).drop L = xs.take H := List.take_append_drop _ _
            have h2 : (xs.take H).take L = xs.take L := by rw [List.take_take, Nat.min_eq_left hlh]
            rw [h2] at h1
            rw [← List.append_assoc, h1, List.take_append_drop]
          have hlen : (flat ty (xs.take L)).length = L * ty.size := by rw [flat_len, List.length_take, Nat.min_eq_left (by omega)]
          rw [e, ← hlen, List.drop_left, List.take_left]
    · have hne' : xs ≠ [] := fun e => by rw [e] at hne; simp at hne
      obtain ⟨q, hq⟩ := v.ne hne'
      dsimp only
      split
      · exact ⟨q, hq⟩
      · exact ⟨_, by rw [hq]; rfl⟩
    · dsimp only; omega
  rcases hl with ⟨rfl, rfl⟩ | rfl <;> rcases hh with ⟨rfl, rfl⟩ | rfl
  · exact ⟨fun x e => (by cases e), fun x e => (by cases e), core 0 s.len rfl n⟩
  · exact ⟨fun x e => (by cases e; omega), fun x e => (by cases e), core 0 h rfl rfl⟩
  · exact ⟨fun x e => (by cases e), fun x e => (by cases e; dsimp only; omega), core l s.len rfl n⟩
  · exact ⟨fun x e => (by cases e; omega), fun x e => (by cases e; dsimp only; omega), core l h rfl rfl⟩

/-! ### Ranges -/
theorem length_Range_spec {from_ n len : Int} (hl : 0 ≤ len ∧ len ≤ 1152921504606846976) {K : Value → World → Prop} (h1 : (0 ≤ from_ ∧ 0 ≤ n ∧ from_ + n ≤ len) → K .nilIface w) (h2 : ¬ (0 ≤ from_ ∧ 0 ≤ n ∧ from_ + n ≤ len) → K (errV 1) w) : C_length_Range from_ n len K w := by
  apply S_length_Range
  unfold F_length_Range
  refine ⟨fun x w' => w' = w ∧ (x.1 = true ↔ ¬ (0 ≤ from_ ∧ 0 ≤ n ∧ from_ + n ≤ len)), length_Valid_spec ?_, ?_⟩
  · rw [decide_eq_true hl]
    refine gd_f rfl (gd_dec (fun c => ⟨rfl, by simp; omega⟩) (fun c => gd_dec (fun c2 => ⟨rfl, by simp; omega⟩) (fun c2 => gd_dec (fun c3 => ⟨rfl, by simp; omega⟩) (fun c3 => arith_i64 (by omega) (by omega) ⟨rfl, ?_⟩))))
    rw [decide_eq_true_iff]; omega
  rintro ⟨b, _⟩ w1 ⟨rfl, hb⟩ _
  dsimp only at hb ⊢
  refine gd_mk (fun c => h2 (hb.1 c)) (fun c => h1 ?_)
  apply Classical.byContradiction
  intro hc
  rw [hb.2 hc] at c; cases c
theorem ref01_Range_spec {from_ n len : Int} (hl : 0 ≤ len ∧ len ≤ 1152921504606846976) {K : Bool → World → Prop} (h : K (decide (0 ≤ from_ ∧ 0 ≤ n ∧ from_ + n ≤ len)) w) : C_ref01_Range from_ n len K w := by
  apply S_ref01_Range
  unfold F_ref01_Range
  have no : ¬ (0 ≤ from_ ∧ 0 ≤ n ∧ from_ + n ≤ len) → K false w := fun c => by rwa [decide_eq_false c] at h
  refine ref01_Valid_yes hl.1 hl.2 (gd_t rfl (gd_dec (fun c => gd_dec (fun c2 => gd_dec (fun c3 => arith_i64 (by omega) (by omega) ?_) (fun c3 => no (by omega))) (fun c2 => no (by omega))) (fun c => no (by omega))))
  have : decide (n ≤ len - from_) = decide (0 ≤ from_ ∧ 0 ≤ n ∧ from_ + n ≤ len) := decide_eq_decide.2 (by omega)
  rw [this]; exact h

/-! ### Refusals -/
/-- the error for an ID that is no balanced one -/
def BadId (T : List ET) (id n : Int) : Prop := (¬ (0 ≤ id ∧ id ≤ T.length) ∧ n = 1) ∨ ((0 ≤ id ∧ id ≤ T.length) ∧ (eAt T id).2.2.2 = false ∧ n = 4)
theorem split_Split_bad {id at_ n : Int} (s : Sp w0 Ω w) (i : Nat) (hi : Ω[i]? = some (sto p most T)) (hn : BadId T id n) {K : Int × Int × Value → World → Prop} (h : ∀ w', Sp w0 Ω w' → K (0, 0, errV n) w') : C_split_Split (some p) id at_ K w := by
  apply S_split_Split
  unfold F_split_Split
  exact split_check_bad s i hi hn fun w1 s => nilIfc_err (gd_t rfl (h _ s))
theorem split_Section_bad {id at_ m n : Int} (s : Sp w0 Ω w) (i : Nat) (hi : Ω[i]? = some (sto p most T)) (hn : BadId T id n) {K : Int × Value → World → Prop} (h : ∀ w', Sp w0 Ω w' → K (0, errV n) w') : C_split_Section (some p) id at_ m K w := by
  apply S_split_Section
  unfold F_split_Section
  exact split_check_bad s i hi hn fun w1 s => nilIfc_err (gd_t rfl (h _ s))
theorem split_Cut_bad {id n : Int} {sl : Sl} (s : Sp w0 Ω w) (i : Nat) (hi : Ω[i]? = some (sto p most T)) (hn : BadId T id n) {K : Sl × Value → World → Prop} (h : ∀ w', Sp w0 Ω w' → K (⟨none, 0, 0⟩, errV n) w') : C_split_Cut (some p) id sl K w := by
  apply S_split_Cut
  unfold F_split_Cut
  exact split_check_bad s i hi hn fun w1 s => nilIfc_err (gd_t rfl (h _ s))
theorem split_check_nil {id : Int} {K : Int × Value → World → Prop} (h : K (0, errV 5) w) : C_split_check none id K w := by
  apply S_split_check
  unfold F_split_check
  exact avl_Balanced_nil (nilIfc_err (gd_t rfl h))
theorem split_Split_nil {id at_ : Int} {K : Int × Int × Value → World → Prop} (h : K (0, 0, errV 5) w) : C_split_Split none id at_ K w := by
  apply S_split_Split
  unfold F_split_Split
  exact split_check_nil (nilIfc_err (gd_t rfl h))
theorem split_Section_nil {id at_ m : Int} {K : Int × Value → World → Prop} (h : K (0, errV 5) w) : C_split_Section none id at_ m K w := by
  apply S_split_Section
  unfold F_split_Section
  exact split_check_nil (nilIfc_err (gd_t rfl h))
theorem split_Cut_nil {id : Int} {sl : Sl} {K : Sl × Value → World → Prop} (h : K (⟨none, 0, 0⟩, errV 5) w) : C_split_Cut none id sl K w := by
  apply S_split_Cut
  unfold F_split_Cut
  exact split_check_nil (nilIfc_err (gd_t rfl h))
/-- an offset that the text does not have -/
theorem split_Split_off {x n : Int} {t : List Int} {d : Int} (s : Sp w0 Ω w) (i : Nat) (hi : Ω[i]? = some (sto p most T)) (nx : Nd0 T x t d) (hn : ¬ (0 ≤ n ∧ n ≤ t.length)) {K : Int × Int × Value → World → Prop}
    (h : ∀ w', Sp w0 Ω w' → K (0, 0, errV 1) w') : C_split_Split (some p) x n K w := by
  apply S_split_Split
  unfold F_split_Split
  obtain ⟨_, _, _, hb0, hb1, hb2, hg⟩ := Sp.entry s i hi
  have lx := nx.len hg
  refine split_check_e s i hi ⟨nx.pos, nx.le⟩ nx.even fun w1 s => nilIfc_nil (gd_f rfl (JoinP.inl (gd_dec (fun c => ?_) (fun c => ?_))))
  · intro _
    exact gd_t rfl (h _ s)
  · intro _
    exact gd_t (decide_eq_true (by dsimp only; omega)) (h _ s)

/-! ### Section and Cut -/
theorem split_Section_sp {x from_ n : Int} {t : List Int} {d : Int} (s : Sp w0 Ω w) (i : Nat) (hi : Ω[i]? = some (sto p most T)) (nx : Nd0 T x t d) {K : Int × Value → World → Prop}
    (h1 : (0 ≤ from_ ∧ 0 ≤ n ∧ from_ + n ≤ t.length) → ∀ T' r w', Res T most (14 * d).toNat (SecQ ((t.drop from_.toNat).take n.toNat) d) T' r → Sp w0 (Ω.set i (sto p most T')) w' → K r w')
    (h2 : ¬ (0 ≤ from_ ∧ 0 ≤ n ∧ from_ + n ≤ t.length) → ∀ w', Sp w0 Ω w' → K (0, errV 1) w') : C_split_Section (some p) x from_ n K w := by
  apply S_split_Section
  unfold F_split_Section
  obtain ⟨_, _, _, hb0, hb1, hb2, hg⟩ := Sp.entry s i hi
  have lx := nx.len hg
  have wlx := (hg.at_ nx.pos nx.le).1.len
  refine split_check_e s i hi ⟨nx.pos, nx.le⟩ nx.even fun w1 s => nilIfc_nil (gd_f rfl (length_Range_spec ⟨by dsimp only; omega, by dsimp only; omega⟩ (fun c => ?_) (fun c => ?_)))
  · refine nilIfc_nil (gd_f rfl (split_section_sp s i hi nx c.1 c.2.1 (by dsimp only at c; omega) fun T' r w' hr s => ?_))
    exact h1 (by dsimp only at c; omega) T' r w' hr s
  · exact nilIfc_err (gd_t rfl (h2 (by dsimp only at c; omega) _ s))

/-- the bounds of the parts of a text of length L -/
def bnd (ats : List Int) (L : Int) (k : Nat) : Int := if k = 0 then 0 else ats.getD (k - 1) L
theorem bnd_zero (ats : List Int) (L : Int) : bnd ats L 0 = 0 := rfl
theorem bnd_succ (ats : List Int) (L : Int) (k : Nat) : bnd ats L (k + 1) = ats.getD k L := rfl
theorem bnd_at {ats : List Int} {L : Int} {k : Nat} {y : Int} (h : ats[k]? = some y) : bnd ats L (k + 1) = y := by rw [bnd_succ, List.getD_eq_getElem?_getD, h]; rfl
theorem bnd_end (ats : List Int) (L : Int) : bnd ats L (ats.length + 1) = L := by rw [bnd_succ, List.getD_eq_getElem?_getD, List.getElem?_eq_none (Nat.le_refl _)]; rfl
def GoodN (ats : List Int) (L : Int) (n : Nat) : Prop := ∀ (k : Nat) (y : Int), k < n → ats[k]? = some y → bnd ats L k ≤ y ∧ y ≤ L
def Good (ats : List Int) (L : Int) : Prop := GoodN ats L ats.length
theorem GoodN.step {ats : List Int} {L : Int} {n : Nat} (g : GoodN ats L n) {y : Int} (hy : ats[n]? = some y) (h1 : bnd ats L n ≤ y) (h2 : y ≤ L) : GoodN ats L (n + 1) := fun k z hk hz => by
  by_cases c : k < n
  · exact g k z c hz
  · have : k = n := by omega
    subst this
    rw [hy] at hz; cases hz
    exact ⟨h1, h2⟩
theorem Good.no {ats : List Int} {L : Int} {n : Nat} {y : Int} (hy : ats[n]? = some y) (h : y < bnd ats L n ∨ L < y) : ¬ Good ats L := fun g => by
  have := g n y (List.getElem?_eq_some_iff.1 hy).1 hy
  omega
theorem Good.mono {ats : List Int} {L : Int} (g : Good ats L) (hL : 0 ≤ L) : ∀ k, k ≤ ats.length → 0 ≤ bnd ats L k ∧ bnd ats L k ≤ L ∧ bnd ats L k ≤ bnd ats L (k + 1) := by
  intro k
  induction k with
  | zero =>
    intro _
    rw [bnd_zero]
    refine ⟨Int.le_refl _, hL, ?_⟩
    by_cases c : 0 < ats.length
    · have hy := List.getElem?_eq_getElem c
      rw [bnd_at hy]
      exact (g 0 _ c hy).1
    · have : ats = [] := List.eq_nil_of_length_eq_zero (by omega)
      subst this
      exact hL
  | succ k ih =>
    intro hk
    have i1 := ih (by omega)
    have hy := List.getElem?_eq_getElem (show k < ats.length by omega)
    have g1 := g k _ (by omega) hy
    rw [← bnd_at (L := L) hy] at g1
    refine ⟨by omega, g1.2, ?_⟩
    by_cases c : k + 1 < ats.length
    · have hy2 := List.getElem?_eq_getElem c
      have g2 := g (k + 1) _ c hy2
      rw [← bnd_at (L := L) hy2] at g2
      exact g2.1
    · rw [show k + 1 = ats.length by omega, bnd_end, ← show k + 1 = ats.length by omega]
      exact g1.2
/-- the parts of a text -/
def cutP (t : List Int) (ats : List Int) (k : Nat) : List Int := (t.drop (bnd ats t.length k).toNat).take (bnd ats t.length (k + 1) - bnd ats t.length k).toNat
def CutQ (T : List ET) (t : List Int) (ats : List Int) (d : Int) (n : Nat) (ps : List Int) : Prop := ps.length = n ∧ ∀ (k : Nat) (y : Int), ps[k]? = some y → ∃ e, Nd0 T y (cutP t ats k) e ∧ e ≤ d
theorem CutQ.ext {T' : List ET} {t ats : List Int} {d : Int} {n : Nat} {ps : List Int} (q : CutQ T t ats d n ps) (h : T <+: T') : CutQ T' t ats d n ps :=
  ⟨q.1, fun k y hk => by obtain ⟨e, a, b⟩ := q.2 k y hk; exact ⟨e, a.ext h, b⟩⟩
theorem CutQ.snoc {t ats : List Int} {d e y : Int} {n : Nat} {ps : List Int} (q : CutQ T t ats d n ps) (hn : Nd0 T y (cutP t ats n) e) (he : e ≤ d) : CutQ T t ats d (n + 1) (ps ++ [y]) := by
  have hl := q.1
  refine ⟨by simp [hl], fun k z hk => ?_⟩
  rcases Nat.lt_or_ge k ps.length with c | c
  · rw [List.getElem?_append_left c] at hk
    exact q.2 k z hk
  · rw [List.getElem?_append_right c] at hk
    have e0 : k - ps.length = 0 := by
      have := (List.getElem?_eq_some_iff.1 hk).1
      simp at this; omega
    rw [e0] at hk
    simp at hk
    subst hk
    rw [show k = n by omega]
    exact ⟨e, hn, he⟩

theorem split_Cut_sp {x : Int} {asl : Sl} {t ats : List Int} {d : Int} (s : Sp w0 Ω w) (i : Nat) (hi : Ω[i]? = some (sto p most T)) (nx : Nd0 T x t d) (hv : ∀ w' T', Sp w0 (Ω.set i (sto p most T')) w' → View (.int .i64) w' asl ats) (hN : ats.length ≤ 1000000) (hroom : (T.length : Int) + 14 * d * (ats.length + 1) ≤ most) {K : Sl × Value → World → Prop}
    (h1 : Good ats t.length → ∀ T' sl ps w', T <+: T' → (T'.length : Int) ≤ T.length + 14 * d * (ats.length + 1) → CutQ T' t ats d (ats.length + 1) ps → Sp w0 (own (.int .i64) sl ps :: Ω.set i (sto p most T')) w' → K (sl, .nilIface) w')
    (h2 : ¬ Good ats t.length → ∀ w', Sp w0 Ω w' → K (⟨none, 0, 0⟩, errV 1) w') : C_split_Cut (some p) x asl K w := by
  apply S_split_Cut
  unfold F_split_Cut
  obtain ⟨_, _, _, hb0, hb1, hb2, hg⟩ := Sp.entry s i hi
  have lx := nx.len hg
  have wlx := (hg.at_ nx.pos nx.le).1.len
  have hset : Ω.set i (sto p most T) = Ω := setSame hi
  have hv0 : ∀ w', Sp w0 Ω w' → View (.int .i64) w' asl ats := fun w' s => hv w' T (by rw [hset]; exact s)
  have hal := (hv0 _ s).len
  refine split_check_e s i hi ⟨nx.pos, nx.le⟩ nx.even fun w1 s => nilIfc_nil (gd_f rfl ?_)
  dsimp only
  rw [lx.1]
  refine loop_by (fun x => x.2.1) ats.length (fun n x w => GoodN ats t.length n ∧ x.1 = bnd ats t.length n ∧ Sp w0 Ω w) rfl ⟨fun k y hk _ => absurd hk (by omega), rfl, s⟩ ?_
  rintro n ⟨last, z, _⟩ w2 hn hz ⟨hgood, hlast, s⟩ _
  dsimp only at hz hlast ⊢
  subst hz
  refine gd_dec (fun hlt => ?_) (fun hge => ?_)
  · have hn' : n < ats.length := by omega
    obtain ⟨y, hy⟩ : ∃ y, ats[n]? = some y := ⟨_, List.getElem?_eq_getElem hn'⟩
    refine (hv0 _ s).idx rfl hy rfl fun q hq => ⟨y, hq, JoinP.inl (gd_dec (fun c => ?_) (fun c => ?_))⟩
    · intro _
      exact gd_t rfl (h2 (Good.no hy (Or.inl (by omega))) _ s)
    · intro _
      refine gd_dec (fun c2 => h2 (Good.no hy (Or.inr c2)) _ s) (fun c2 => arith_i64 (by omega) (by omega) (loop_nx hn' ⟨hgood.step hy (by omega) (by omega), (bnd_at hy).symm, s⟩))
  have en : n = ats.length := by omega
  subst en
  have hgd : Good ats t.length := hgood
  have hm := hgd.mono (by omega)
  refine arith_i64 (by omega) (by omega) ⟨by decide, by omega, by omega, by omega, s.mkS (.int .i64) (0 : Int) 0 ((asl.len : Int) + 1).toNat (by omega) fun a11 w4 s => ?_⟩
  refine loop_by (fun x => x.2.2.1) (ats.length + 1) (fun n x w => x.2.1 = bnd ats t.length n ∧ ∃ T' ps, T <+: T' ∧ Grow T' ∧ (T'.length : Int) ≤ T.length + 14 * d * n ∧ CutQ T' t ats d n ps ∧ Sp w0 (own (.int .i64) x.1 ps :: Ω.set i (sto p most T')) w) rfl ⟨rfl, T, [], List.prefix_refl _, hg, by simp, ⟨rfl, fun k y hk => by simp at hk⟩, ?_⟩ ?_
  · rw [hset]; exact s
  clear s
  rintro n ⟨psl, fr, z, _⟩ w5 hn hz ⟨hfr, T', ps, hpre, hg', hT', hq, s⟩ _
  dsimp only at hz hfr s ⊢
  subst hz hfr
  have hpl := hq.1
  refine gd_dec (fun hlt => ?_) (fun hge => ?_)
  rotate_left
  · have en : n = ats.length + 1 := by omega
    subst en
    exact h1 hgd T' psl ps _ hpre (by simpa using hT') hq s
  have hn' : n ≤ ats.length := by omega
  have hmn := hm n hn'
  have hmul : 14 * d * (n + 1) ≤ 14 * d * (ats.length + 1) := Int.mul_le_mul_of_nonneg_left (by omega) (by omega)
  have hmul2 : 14 * d * (n + 1) = 14 * d * n + 14 * d := by rw [Int.mul_add, Int.mul_one]
  have hhi : (Ω.set i (sto p most T'))[i]? = some (sto p most T') := setGet hi
  have hnx' : bnd ats t.length (n + 1) ≤ t.length := by
    by_cases c : n < ats.length
    · exact (hm (n + 1) (by omega)).2.1
    · rw [show n = ats.length by omega, bnd_end]; omega
  refine ⟨fun x w => x.1 = bnd ats t.length (n + 1) ∧ Sp w0 (own (.int .i64) psl ps :: Ω.set i (sto p most T')) w, ?_, ?_⟩
  · refine gd_dec (fun c => ?_) (fun c => ?_)
    · obtain ⟨y, hy⟩ : ∃ y, ats[n]? = some y := ⟨_, List.getElem?_eq_getElem (by omega)⟩
      exact (hv _ _ s.pop).idx rfl hy rfl fun q hq => ⟨y, hq, (bnd_at hy).symm, s⟩
    · refine ⟨?_, s⟩
      rw [show n = ats.length by omega, bnd_end]
  rintro ⟨to, _⟩ w6 ⟨hto, s⟩ _
  dsimp only at hto ⊢
  subst hto
  refine arith_i64 (by omega) (by omega) (split_section_sp s (i + 1) hhi (nx.ext hpre) hmn.1 (by omega) (by omega) fun T2 xr w7 r1 s => ?_)
  obtain ⟨x1, er⟩ := xr
  have hl1 := r1.len
  rcases r1.out with ⟨e1, e, n1, he⟩ | ⟨_, hbad⟩
  rotate_left
  · omega
  dsimp only at e1 n1
  subst e1
  refine nilIfc_nil (gd_f rfl (s.allocK fun a21 w8 s => s.app 1 rfl ((s.lit (ty := .int .i64) 0 rfl [x1] 1 rfl rfl).view 0 rfl) (by simp only [List.length_cons, List.length_nil]; omega) fun s22 w9 s => arith_i64 (by omega) (by omega) (loop_nx (by omega) ⟨rfl, T2, ps ++ [x1], hpre.trans r1.ext, r1.grow, ?_, (hq.ext r1.ext).snoc n1 he, ?_⟩)))
  · rw [show ((n + 1 : Nat) : Int) = (n : Int) + 1 by omega, hmul2]; omega
  · have s' : Sp w0 (own (.int .i64) s22 (ps ++ [x1]) :: (Ω.set i (sto p most T')).set i (sto p most T2)) w9 := s.pop
    rwa [List.set_set] at s'

end Go.Proofs.Ytgbledjehnojeaa
