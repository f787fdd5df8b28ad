/- Texts that belong together, joined: DenC. No conditions. -/
import Derived.Test.YtcmncfglcjcmhaaGreatDenD
/- The soundness of the denotation: code and functions. -/
set_option linter.unusedSectionVars false
set_option linter.unusedVariables false
set_option linter.unusedSimpArgs false
namespace Go.Den

variable [EntTys]
variable {P : Program}

theorem all_range {n : Nat} {p : Nat → Bool} (h : (List.range n).all p = true) (i : Nat) (hi : i < n) : p i = true := by
  rw [List.all_eq_true] at h
  exact h i (List.mem_range.2 hi)

theorem apart_symm {ops : Array Oper} {x y : Oper} (h : x.apart ops y = true) : y.apart ops x = true := by
  obtain ⟨h1, h2, h3⟩ := Oper.apart_spec h
  unfold Oper.apart
  rw [Bool.and_eq_true]
  constructor
  · cases hy : y.dst with
    | none => rfl
    | some d =>
      have := h3 d hy
      simp only [Bool.and_eq_true, Bool.not_eq_true', bne_iff_ne, ne_eq]
      refine ⟨by simpa using this, fun e => h2 d e hy⟩
  · cases hx : x.dst with
    | none => rfl
    | some d =>
      have := h1 d hx
      simpa using this

theorem checkDraw_spec {ops : Array Oper} {n : Nat} (h : checkDraw ops = true) (hd : ∀ (i : Nat) (o : Oper), ops[i]? = some o → ∀ d, o.dst = some d → d < n) :
    Chk P ops (masks ops.toList []) n := by
  unfold checkDraw at h
  simp only [Bool.and_eq_true] at h
  obtain ⟨h1, h2⟩ := h
  have back : ∀ (i : Nat) (o : Oper), ops[i]? = some o → ∀ e ∈ bindsOn o, e < i := by
    intro i o ho e he
    have hlt : i < ops.toList.length := by simpa using (Array.getElem?_eq_some_iff.1 ho).1
    have := all_range h2 i hlt
    have ho' : ops.toList[i]? = some o := by simpa using ho
    rw [ho'] at this
    simp only [Bool.and_eq_true] at this
    have := List.all_eq_true.1 this.1 e he
    simpa [Nat.blt_eq] using this
  have bef : ∀ i j, bit ((masks ops.toList []).getD i 0) j = true → Bef ops j i :=
    masks_sound ops.toList [] 0 rfl (fun i => by simp) (fun i j hi => by omega) back
  have low : ∀ (i j : Nat) (oi oj : Oper), ops[i]? = some oi → ops[j]? = some oj → j < i → oi.apart ops oj = true ∨ Bef ops j i := by
    intro i j oi oj hi hj hlt'
    have hlt : i < ops.toList.length := by simpa using (Array.getElem?_eq_some_iff.1 hi).1
    have := all_range h2 i hlt
    have hi' : ops.toList[i]? = some oi := by simpa using hi
    have hj' : ops.toList[j]? = some oj := by simpa using hj
    rw [hi'] at this
    simp only [Bool.and_eq_true] at this
    have := all_range this.2 j hlt'
    rw [hj'] at this
    simp only [Bool.or_eq_true] at this
    rcases this with this | this
    · exact .inr (bef _ _ this)
    · exact .inl this
  refine ⟨fun i o cs b ho => Region.noSelect_spec h1 i o cs b ho, back, bef, fun i j oi oj hi hj hne => ?_, hd⟩
  rcases Nat.lt_or_ge j i with h | h
  · rcases low i j oi oj hi hj h with h | h
    · exact .inl h
    · exact .inr (.inl h)
  · rcases low j i oj oi hj hi (by omega) with h | h
    · exact .inl (apart_symm h)
    · exact .inr (.inr h)

/-- what is asked behind a piece of code -/
def Lift (n : Nat) (ds : List Nat) (env : Env) (Q : Exit → Env → World → Prop) : Exit → Act → World → Prop :=
  fun e a w => ∃ env', Agree n env' a ∧ (∀ s, s ∉ ds → env' s = env s) ∧ Q e env' w

theorem havoc_eq (ds : List Nat) (junk env : Env) (s : Nat) : havoc ds junk env s = if s ∈ ds then junk s else env s := by
  unfold havoc
  by_cases h : s ∈ ds
  · have : ds.any (Nat.beq s) = true := List.any_eq_true.2 ⟨s, h, by simp⟩
    rw [this]; simp [h]
  · have : ds.any (Nat.beq s) = false := by
      rw [List.any_eq_false]
      intro x hx e
      have := Nat.eq_of_beq_eq_true e
      subst this; exact h hx
    rw [this]; simp [h]

theorem rd_spec : ∀ (L : Live) (env : Env) (K : LT L → Prop), rd L env K → ∃ x, K x ∧ ∀ e, (∀ s, s ∉ L.map (·.1) → e s = env s) → ovr L x e = env := by
  intro L
  induction L with
  | nil => intro env K h; exact ⟨(), h, fun e he => funext fun s => he s (by simp)⟩
  | cons y L ih =>
    obtain ⟨s, t⟩ := y
    intro env K h
    simp only [rd] at h
    split at h
    · rename_i x hx
      obtain ⟨xs, hK, hov⟩ := ih env _ h
      refine ⟨(x, xs), hK, fun e he => ?_⟩
      simp only [ovr]
      funext s'
      rw [upd_eq]
      split
      · rename_i e1; subst e1; exact (un_eq _ _ _ hx).symm
      · rename_i hne
        -- the rest agrees away from s
        have : ∀ (L : Live) (xs : LT L) (e1 e2 : Env) (s' : Nat), (e1 s' = e2 s' ∨ s' ∈ L.map (·.1)) → ovr L xs e1 s' = ovr L xs e2 s' := by
          intro L
          induction L with
          | nil =>
            intro xs e1 e2 s' h
            rcases h with h | h
            · exact h
            · simp at h
          | cons y L ih =>
            obtain ⟨s2, t2⟩ := y
            intro xs e1 e2 s' h
            simp only [ovr, upd_eq]
            split
            · rfl
            · rename_i hne
              refine ih _ _ _ _ ?_
              rcases h with h | h
              · exact .inl h
              · simp only [List.map_cons, List.mem_cons] at h
                rcases h with h | h
                · exact absurd h hne
                · exact .inr h
        have h2 := congrFun (hov (fun k => if k ∈ L.map (·.1) then e k else env k) (fun k hk => by simp [hk])) s'
        rw [← h2]
        refine this L xs _ _ s' ?_
        by_cases hm : s' ∈ L.map (·.1)
        · exact .inr hm
        · left
          simp only [hm, if_false]
          exact he s' (by simp only [List.map_cons, List.mem_cons, not_or]; exact ⟨hne, hm⟩)
    · cases h

/-- a loop, by a measure of what stands beside the frame -/
theorem wp_loop_rel {c : Code} {Q : Exit → Act → World → Prop} {a : Act} {w : World} {X : Type} (C : X → Act → World → Prop) (μ : X → World → Nat) (x₀ : X) (h₀ : C x₀ a w)
    (round : ∀ x a w, C x a w → c.wp P (Exit.then (fun a' w' => ∃ x', C x' a' w' ∧ μ x' w' < μ x w) Q) a w) : (Code.loop c).wp P Q a w := by
  intro b k cs
  have key : ∀ m x a w, μ x w = m → C x a w → ∃ e a' w', Q e a' w' ∧ Arrives P (lone (b.at a (.code c :: .inLoop c :: k)) cs w) b k cs e a' w' := by
    intro m
    induction m using Nat.strongRecOn with
    | _ m ih =>
      intro x a w hm hC
      obtain ⟨e, a₁, w₁, hq, harr⟩ := round x a w hC b (.inLoop c :: k) cs
      cases e with
      | normal =>
        obtain ⟨x', hC', hlt⟩ := hq
        obtain ⟨e₂, a₂, w₂, hq₂, harr₂⟩ := ih _ (hm ▸ hlt) x' a₁ w₁ rfl hC'
        exact ⟨e₂, a₂, w₂, hq₂, .of_steps (Steps.trans harr (.one step_inLoop)) harr₂⟩
      | exit id => exact ⟨_, a₁, w₁, hq, .pass (x := .inLoop c) rfl (fun _ _ => .inl (by simp)) harr⟩
      | goto l => exact ⟨_, a₁, w₁, hq, .pass (x := .inLoop c) rfl (fun _ _ => .inl (by simp)) harr⟩
      | ret => exact ⟨_, a₁, w₁, hq, .pass (x := .inLoop c) rfl (fun _ _ => .inl (by simp)) harr⟩
      | panic ch => exact ⟨_, a₁, w₁, hq, .pass (x := .inLoop c) rfl (fun _ _ => .inl (by simp)) harr⟩
      | outgrown => exact ⟨_, a₁, w₁, hq, .pass (x := .inLoop c) rfl (fun _ _ => .inl (by simp)) harr⟩
  obtain ⟨e, a', w', hq, harr⟩ := key _ x₀ a w rfl h₀
  exact ⟨e, a', w', hq, .of_steps (.one step_loop) harr⟩

theorem sound {n : Nat} (hm : P.follows .mixedOrders = true) (anns : List (Nat × Live)) : ∀ (c : Code) (Q : Exit → Env → World → Prop) (env : Env) (a : Act) (w : World),
    checkB P n c = true → den P anns c Q env w → Agree n env a → c.wp P (Lift n (dsts c) env Q) a w := by
  intro c
  induction c with
  | skip => intro Q env a w _ h ha; exact wp_skip ⟨env, ha, fun _ _ => rfl, h⟩
  | region id ops d =>
    intro Q env a w hc h ha
    simp only [checkB, Bool.and_eq_true, List.all_eq_true] at hc
    have hd : ∀ o ∈ ops.toList, ∀ d, o.dst = some d → d < n := by
      intro o ho d hd
      have := hc.1 o ho
      rw [hd] at this
      simpa [Nat.blt_eq] using this
    cases d with
    | false =>
      simp only [den] at h
      exact wp_region_list (opsF_sound ops.toList [] env a w hd (fun env' a' w' ha' hf hk => ⟨env', ha', hf, hk⟩) h ha)
    | true =>
      simp only [den, drawK] at h
      have hd' : ∀ (i : Nat) (o : Oper), ops[i]? = some o → ∀ d, o.dst = some d → d < n := fun i o ho => hd o (by simpa using Array.mem_of_getElem? ho)
      have ch := checkDraw_spec (P := P) hc.2 hd'
      exact wp_region_any hm (drawF_sound (K := fun env w => Q .normal env w) ch (fun env' a' w' ha' hf hk => ⟨env', ha', hf, hk⟩) ha h)
  | seq x y ihx ihy =>
    intro Q env a w hc h ha
    simp only [checkB, Bool.and_eq_true] at hc
    simp only [den] at h
    refine wp_seq ?_
    split at h
    · refine Code.wp_mono ?_ (ihx _ env a w hc.1 h ha)
      rintro e a' w' ⟨env', ha', hf, hq⟩
      cases e with
      | normal =>
        refine Code.wp_mono ?_ (ihy _ env' a' w' hc.2 hq ha')
        rintro e a2 w2 ⟨env2, ha2, hf2, hq2⟩
        refine ⟨env2, ha2, fun s hs => ?_, hq2⟩
        simp only [dsts, List.mem_append, not_or] at hs
        rw [hf2 s hs.2, hf s hs.1]
      | _ => exact ⟨env', ha', fun s hs => hf s (by simp only [dsts, List.mem_append, not_or] at hs; exact hs.1), hq⟩
    · rename_i L hL
      obtain ⟨R, hA, hR⟩ := h
      refine Code.wp_mono ?_ (ihx _ env a w hc.1 hA ha)
      rintro e a' w' ⟨env', ha', hf, hq⟩
      cases e with
      | normal =>
        obtain ⟨x, hx, hov⟩ := rd_spec _ _ _ hq
        have hb := hR x w' hx env'
        rw [hov _ (fun s _ => by
          rw [havoc_eq]
          split
          · rfl
          · exact (hf s (by assumption)).symm)] at hb
        refine Code.wp_mono ?_ (ihy _ env' a' w' hc.2 hb ha')
        rintro e a2 w2 ⟨env2, ha2, hf2, hq2⟩
        refine ⟨env2, ha2, fun s hs => ?_, hq2⟩
        simp only [dsts, List.mem_append, not_or] at hs
        rw [hf2 s hs.2, hf s hs.1]
      | _ => exact ⟨env', ha', fun s hs => hf s (by simp only [dsts, List.mem_append, not_or] at hs; exact hs.1), hq⟩
  | cond c x y ihx ihy =>
    intro Q env a w hc h ha
    simp only [checkB, Bool.and_eq_true] at hc
    simp only [den] at h
    split at h
    · rename_i t ht
      refine wp_cond_split (t := t) (by rw [ha.eval]; exact ht) (fun e => ?_) (fun e => ?_)
      · refine Code.wp_mono ?_ (ihx _ env a w hc.1 (gd_left h e) ha)
        rintro e a' w' ⟨env', ha', hf, hq⟩
        exact ⟨env', ha', fun s hs => hf s (by simp only [dsts, List.mem_append, not_or] at hs; exact hs.1), hq⟩
      · refine Code.wp_mono ?_ (ihy _ env a w hc.2 (gd_right h e) ha)
        rintro e a' w' ⟨env', ha', hf, hq⟩
        exact ⟨env', ha', fun s hs => hf s (by simp only [dsts, List.mem_append, not_or] at hs; exact hs.2), hq⟩
    · cases h
  | block id c ih =>
    intro Q env a w hc h ha
    simp only [checkB] at hc
    simp only [den] at h
    refine wp_block (Code.wp_mono ?_ (ih _ env a w hc h ha))
    rintro e a' w' ⟨env', ha', hf, hq⟩
    cases e with
    | exit i =>
      simp only [Exit.inBlock]
      dsimp only at hq
      split at hq
      · rename_i e1
        rw [if_pos (Nat.eq_of_beq_eq_true e1)]
        exact ⟨env', ha', hf, hq⟩
      · rename_i e1
        rw [if_neg (fun e2 => by subst e2; simp at e1)]
        exact ⟨env', ha', hf, hq⟩
    | _ => exact ⟨env', ha', hf, hq⟩
  | loop c ih =>
    intro Q env a w hc h ha
    simp only [checkB] at hc
    simp only [den] at h
    split at h
    · cases h
    · rename_i L hL
      obtain ⟨x0, ⟨I, μ, h0, hstep⟩, hov0⟩ := rd_spec _ _ _ h
      refine wp_loop_rel (X := LT L) (fun x a' w' => I x w' ∧ ∃ env', Agree n env' a' ∧ (∀ s, s ∉ dsts c → env' s = env s) ∧ (∀ e, (∀ s, s ∉ L.map (·.1) → e s = env' s) → ovr L x e = env')) μ x0
        ⟨h0, env, ha, fun _ _ => rfl, hov0⟩ ?_
      rintro x a' w' ⟨hI, env', ha', hf, hov⟩
      have hb := hstep x w' hI env'
      rw [hov _ (fun s _ => by
          rw [havoc_eq]
          split
          · rfl
          · exact (hf s (by assumption)).symm)] at hb
      refine Code.wp_mono ?_ (ih _ env' a' w' hc hb ha')
      rintro e a2 w2 ⟨env2, ha2, hf2, hq2⟩
      have hf' : ∀ s, s ∉ dsts c → env2 s = env s := fun s hs => by rw [hf2 s hs, hf s hs]
      cases e with
      | normal =>
        obtain ⟨x', hx', hov'⟩ := rd_spec _ _ _ hq2
        exact ⟨x', ⟨hx'.1, env2, ha2, hf', hov'⟩, hx'.2⟩
      | _ => exact ⟨env2, ha2, hf', hq2⟩
  | exit id => intro Q env a w _ h ha; exact wp_exit ⟨env, ha, fun _ _ => rfl, h⟩
  | ret => intro Q env a w _ h ha; exact wp_ret ⟨env, ha, fun _ _ => rfl, h⟩
  | label l => intro Q env a w _ h ha; exact wp_label ⟨env, ha, fun _ _ => rfl, h⟩
  | _ => intro Q env a w _ h _; simp only [den] at h


theorem resK_run {env : Env} {n : Nat} {a : Act} {w : World} (ha : Agree n env a) : ∀ (rs : List ResultVar) (acc : List Value) (K : Value → Prop), resK P env w rs acc K →
    ∃ vs : List Value, (rs.mapM (m := Sem) fun
      | .tmp t => pure (a.tmps.getD t undef)
      | .cell x t => do loadVar t (← asAddr (a.tmps.getD x undef))).run P w = .ok vs w ∧ K (match acc.reverse ++ vs with | [v] => v | vs => .tuple vs.toArray) := by
  intro rs
  induction rs with
  | nil =>
    intro acc K h
    refine ⟨[], by simp, ?_⟩
    simp only [resK] at h
    rw [List.append_nil]
    split at h
    · rename_i v e; rw [e]; exact h
    · rename_i hne
      split
      · rename_i v e; exact absurd e (hne v)
      · exact h
  | cons r rs ih =>
    intro acc K h
    cases r with
    | tmp t =>
      simp only [resK] at h
      obtain ⟨vs, h1, h2⟩ := ih _ K h
      refine ⟨env t :: vs, ?_, by simpa using h2⟩
      simp only [List.mapM_cons, Sem.run_bind, Sem.run_pure, Result.andThen_ok, h1, ha.get t]
    | cell x t =>
      simp only [resK] at h
      split at h
      · rename_i p ho e
        obtain ⟨y, hy, h⟩ := h
        obtain ⟨vs, h1, h2⟩ := ih _ K h
        refine ⟨val (tyOf P 9 t) y :: vs, ?_, by simpa using h2⟩
        have e' : a.tmps.getD x undef = .pointer (some p) := by rw [ha.get x, e]
        have has : (asAddr (a.tmps.getD x undef)).run P w = .ok p w := by rw [e']; rfl
        simp only [List.mapM_cons, Sem.run_bind, has, Result.andThen_ok, run_loadVar_at ho hy, h1, Sem.run_pure]
      · cases h

theorem resK_results {env : Env} {n : Nat} {fn : Func} {a : Act} {w : World} (ha : Agree n env a) {K : Value → Prop} (h : resK P env w fn.results.toList [] K) :
    ∃ v, (results fn a.tmps).run P w = .ok v w ∧ K v := by
  obtain ⟨vs, h1, h2⟩ := resK_run ha _ _ _ h
  refine ⟨_, ?_, h2⟩
  unfold results
  rw [Array.mapM_eq_mapM_toList, Sem.run_bind, Sem.run_map]
  erw [h1]
  simp only [Result.andThen_ok, Sem.run_pure, List.reverse_nil, List.nil_append]
  match vs with
  | [] => simp
  | [v] => simp
  | u :: v :: r => simp

theorem fn_sound' {anns : List (Nat × Live)} {f : FuncId} {fn : Func} {args : Array Value} {ty : Ty} {w : World} {K : ty.T → World → Prop} {c : Code}
    (hm : P.follows .mixedOrders = true) (hf : P.funcs[f]? = some fn) (hb : fn.body = some c) (hn : args.size ≤ fn.ntmps) (hc : checkB P fn.ntmps c = true)
    (h : denFn P anns fn args ty K w) : callP P f args ty w K := by
  unfold callP
  refine calls_of_wp hf hb ?_
  unfold denFn at h
  rw [hb] at h
  have ha : Agree fn.ntmps (envOfArgs args) { tmps := args ++ Array.replicate (fn.ntmps - args.size) undef, defers := [] } := by
    refine ⟨by simp; omega, rfl, fun i => ?_⟩
    unfold envOfArgs
    simp only [Array.getD_eq_getD_getElem?, Array.getElem?_append]
    split
    · rfl
    · rename_i hi
      have e1 : args[i]? = none := Array.getElem?_eq_none (by omega)
      rw [e1, Array.getElem?_replicate]
      split <;> rfl
  refine Code.wp_mono ?_ (sound hm anns c _ _ _ w hc h ha)
  rintro e a' w' ⟨env', ha', _, hq⟩
  cases e with
  | normal =>
    obtain ⟨v, hv, hK⟩ := resK_results ha' hq
    split at hK
    · rename_i r hr
      exact ⟨ha'.defers, v, hv, r, by rw [un_eq _ _ _ hr], hK⟩
    · cases hK
  | ret =>
    obtain ⟨v, hv, hK⟩ := resK_results ha' hq
    split at hK
    · rename_i r hr
      exact ⟨ha'.defers, v, hv, r, by rw [un_eq _ _ _ hr], hK⟩
    · cases hK
  | _ => cases hq


def checkFn (P : Program) (fn : Func) (k : Nat) : Bool := match fn.body with
  | some c => Nat.ble k fn.ntmps && checkB P fn.ntmps c
  | none => false

theorem fn_sound (hm : P.follows .mixedOrders = true) {anns : List (Nat × Live)} {f : FuncId} {fn : Func} {args : Array Value} {ty : Ty} {w : World} {K : ty.T → World → Prop}
    (hf : P.funcs[f]? = some fn) (hc : checkFn P fn args.size = true) (h : denFn P anns fn args ty K w) : callP P f args ty w K := by
  unfold checkFn at hc
  split at hc
  · rename_i c hb
    simp only [Bool.and_eq_true] at hc
    exact fn_sound' hm hf hb (Nat.le_of_ble_eq_true hc.1) hc.2 h
  · cases hc

end Go.Den
