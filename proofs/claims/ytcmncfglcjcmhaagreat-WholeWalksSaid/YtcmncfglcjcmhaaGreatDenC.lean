/- Texts that belong together, joined: DenC. No conditions. -/
import Derived.RangeFuncLeaves
import Derived.RangeFuncIn
import Derived.Test.YtcmncfglcjcmhaaGreatDenD
/- The soundness of the denotation: code and functions. -/
set_option linter.unusedSectionVars false
set_option linter.unusedVariables false
set_option linter.unusedSimpArgs false
namespace Go.Den

variable [EntTys]
variable {P : Program}

theorem all_range {n : Nat} {p : Nat → Bool} (h : (List.range n).all p = true) (i : Nat) (hi : i < n) : p i = true := by
  rw [List.all_eq_true] at h
  exact h i (List.mem_range.2 hi)

theorem apart_symm {ops : Array Oper} {x y : Oper} (h : x.apart ops y = true) : y.apart ops x = true := by
  obtain ⟨h1, h2, h3⟩ := Oper.apart_spec h
  unfold Oper.apart
  rw [Bool.and_eq_true]
  constructor
  · cases hy : y.dst with
    | none => rfl
    | some d =>
      have := h3 d hy
      simp only [Bool.and_eq_true, Bool.not_eq_true', bne_iff_ne, ne_eq]
      refine ⟨by simpa using this, fun e => h2 d e hy⟩
  · cases hx : x.dst with
    | none => rfl
    | some d =>
      have := h1 d hx
      simpa using this

theorem checkDraw_spec {ops : Array Oper} {n : Nat} (h : checkDraw ops = true) (hd : ∀ (i : Nat) (o : Oper), ops[i]? = some o → ∀ d, o.dst = some d → d < n) :
    Chk P ops (masks ops.toList []) n := by
  unfold checkDraw at h
  simp only [Bool.and_eq_true] at h
  obtain ⟨h1, h2⟩ := h
  have back : ∀ (i : Nat) (o : Oper), ops[i]? = some o → ∀ e ∈ bindsOn o, e < i := by
    intro i o ho e he
    have hlt : i < ops.toList.length := by simpa using (Array.getElem?_eq_some_iff.1 ho).1
    have := all_range h2 i hlt
    have ho' : ops.toList[i]? = some o := by simpa using ho
    rw [ho'] at this
    simp only [Bool.and_eq_true] at this
    have := List.all_eq_true.1 this.1 e he
    simpa [Nat.blt_eq] using this
  have bef : ∀ i j, bit ((masks ops.toList []).getD i 0) j = true → Bef ops j i :=
    masks_sound ops.toList [] 0 rfl (fun i => by simp) (fun i j hi => by omega) back
  have low : ∀ (i j : Nat) (oi oj : Oper), ops[i]? = some oi → ops[j]? = some oj → j < i → oi.apart ops oj = true ∨ Bef ops j i := by
    intro i j oi oj hi hj hlt'
    have hlt : i < ops.toList.length := by simpa using (Array.getElem?_eq_some_iff.1 hi).1
    have := all_range h2 i hlt
    have hi' : ops.toList[i]? = some oi := by simpa using hi
    have hj' : ops.toList[j]? = some oj := by simpa using hj
    rw [hi'] at this
    simp only [Bool.and_eq_true] at this
    have := all_range this.2 j hlt'
    rw [hj'] at this
    simp only [Bool.or_eq_true] at this
    rcases this with this | this
    · exact .inr (bef _ _ this)
    · exact .inl this
  refine ⟨fun i o cs b ho => Region.noSelect_spec h1 i o cs b ho, back, bef, fun i j oi oj hi hj hne => ?_, hd⟩
  rcases Nat.lt_or_ge j i with h | h
  · rcases low i j oi oj hi hj h with h | h
    · exact .inl h
    · exact .inr (.inl h)
  · rcases low j i oj oi hj hi (by omega) with h | h
    · exact .inl (apart_symm h)
    · exact .inr (.inr h)

/-- what is asked behind a piece of code -/
def Lift (n : Nat) (m : List Nat) (nr : Bool) (ds : List Nat) (env : Env) (Q : Exit → List Nat → Env → World → Prop) : Exit → Act → World → Prop :=
  fun e a w => ∃ m' env', Agree n m' env' a ∧ (∀ s, s ∉ ds → env' s = env s) ∧ (nr = true → m' = m) ∧ Q e m' env' w

theorem havoc_eq (ds : List Nat) (junk env : Env) (s : Nat) : havoc ds junk env s = if s ∈ ds then junk s else env s := by
  unfold havoc
  by_cases h : s ∈ ds
  · have : ds.any (Nat.beq s) = true := List.any_eq_true.2 ⟨s, h, by simp⟩
    rw [this]; simp [h]
  · have : ds.any (Nat.beq s) = false := by
      rw [List.any_eq_false]
      intro x hx e
      have := Nat.eq_of_beq_eq_true e
      subst this; exact h hx
    rw [this]; simp [h]

theorem rd_spec : ∀ (L : Live) (env : Env) (K : LT L → Prop), rd L env K → ∃ x, K x ∧ ∀ e, (∀ s, s ∉ L.map (·.1) → e s = env s) → ovr L x e = env := by
  intro L
  induction L with
  | nil => intro env K h; exact ⟨(), h, fun e he => funext fun s => he s (by simp)⟩
  | cons y L ih =>
    obtain ⟨s, t⟩ := y
    intro env K h
    simp only [rd] at h
    split at h
    · rename_i x hx
      obtain ⟨xs, hK, hov⟩ := ih env _ h
      refine ⟨(x, xs), hK, fun e he => ?_⟩
      simp only [ovr]
      funext s'
      rw [upd_eq]
      split
      · rename_i e1; subst e1; exact (un_eq _ _ _ hx).symm
      · rename_i hne
        -- the rest agrees away from s
        have : ∀ (L : Live) (xs : LT L) (e1 e2 : Env) (s' : Nat), (e1 s' = e2 s' ∨ s' ∈ L.map (·.1)) → ovr L xs e1 s' = ovr L xs e2 s' := by
          intro L
          induction L with
          | nil =>
            intro xs e1 e2 s' h
            rcases h with h | h
            · exact h
            · simp at h
          | cons y L ih =>
            obtain ⟨s2, t2⟩ := y
            intro xs e1 e2 s' h
            simp only [ovr, upd_eq]
            split
            · rfl
            · rename_i hne
              refine ih _ _ _ _ ?_
              rcases h with h | h
              · exact .inl h
              · simp only [List.map_cons, List.mem_cons] at h
                rcases h with h | h
                · exact absurd h hne
                · exact .inr h
        have h2 := congrFun (hov (fun k => if k ∈ L.map (·.1) then e k else env k) (fun k hk => by simp [hk])) s'
        rw [← h2]
        refine this L xs _ _ s' ?_
        by_cases hm : s' ∈ L.map (·.1)
        · exact .inr hm
        · left
          simp only [hm, if_false]
          exact he s' (by simp only [List.map_cons, List.mem_cons, not_or]; exact ⟨hne, hm⟩)
    · cases h

/-- a loop, by a measure of what stands beside the frame -/
theorem wpIn_loop_rel {F : Fence} {n : Nat} {c : Code} {Q : Exit → Act → World → Prop} {a : Act} {w : World} {X : Type} (C : X → Act → World → Prop) (μ : X → World → Nat) (x₀ : X) (h₀ : C x₀ a w)
    (round : ∀ x a w, C x a w → c.wpIn F n P (Exit.then (fun a' w' => ∃ x', C x' a' w' ∧ μ x' w' < μ x w) Q) a w) : (Code.loop c).wpIn F n P Q a w := by
  intro b k cs hro hb hr
  have key : ∀ j x a w, μ x w = j → C x a w → ∃ e a' w', Q e a' w' ∧ ArrivesIn (Machine.fenced P F) P (lone (b.atR a (.code c :: .inLoop c :: k)) cs w) b k cs e a' w' := by
    intro j
    induction j using Nat.strongRecOn with
    | _ j ih =>
      intro x a w hm hC
      obtain ⟨e, a₁, w₁, hq, harr⟩ := round x a w hC b (.inLoop c :: k) cs hro hb hr
      cases e with
      | normal =>
        obtain ⟨x', hC', hlt⟩ := hq
        obtain ⟨e₂, a₂, w₂, hq₂, harr₂⟩ := ih _ (hm ▸ hlt) x' a₁ w₁ rfl hC'
        exact ⟨e₂, a₂, w₂, hq₂, .of_steps (StepsIn.trans harr (.one (fenced_calm hb hr rfl) stepR_inLoop)) harr₂⟩
      | exit id => exact ⟨_, a₁, w₁, hq, .pass (x := .inLoop c) rfl (fun _ _ => .inl (by simp)) harr⟩
      | goto l => exact ⟨_, a₁, w₁, hq, .pass (x := .inLoop c) rfl (fun _ _ => .inl (by simp)) harr⟩
      | ret => exact ⟨_, a₁, w₁, hq, .pass (x := .inLoop c) rfl (fun _ _ => .inl (by simp)) harr⟩
      | panic ch => exact ⟨_, a₁, w₁, hq, .pass (x := .inLoop c) rfl (fun _ _ => .inl (by simp)) harr⟩
      | outgrown => exact ⟨_, a₁, w₁, hq, .pass (x := .inLoop c) rfl (fun _ _ => .inl (by simp)) harr⟩
  obtain ⟨e, a', w', hq, harr⟩ := key _ x₀ a w rfl h₀
  exact ⟨e, a', w', hq, .of_steps (.one (fenced_calm hb hr rfl) stepR_loop) harr⟩

/-! ### A range over a function -/
theorem sameL_eq : ∀ (a b : List Nat), sameL a b = true → a = b
  | [], [], _ => rfl
  | [], _ :: _, h => by simp [sameL] at h
  | _ :: _, [], h => by simp [sameL] at h
  | x :: a, y :: b, h => by
    simp only [sameL, Bool.and_eq_true] at h
    rw [Nat.eq_of_beq_eq_true h.1, sameL_eq a b h.2]
theorem ovr_upd : ∀ (L : Live) (x : LT L) (env : Env) (s : Nat) (v : Value), s ∉ L.map (·.1) → ovr L x (upd env s v) = upd (ovr L x env) s v := by
  intro L
  induction L with
  | nil => intro x env s v _; rfl
  | cons y L ih =>
    obtain ⟨s1, t1⟩ := y
    intro x env s v h
    simp only [List.map_cons, List.mem_cons, not_or] at h
    simp only [ovr]
    rw [ih _ _ _ _ h.2]
    funext k
    rw [upd_eq, upd_eq, upd_eq, upd_eq]
    by_cases h1 : k = s1
    · subst h1
      rw [if_pos rfl, if_neg (fun e => h.1 e.symm), if_pos rfl]
    · rw [if_neg h1, if_neg h1]
theorem argV_len : ∀ (L : Live) (x : LT L), (argV L x).length = L.length
  | [], _ => rfl
  | (_, t) :: r, x => by rw [argV, List.length_cons, List.length_cons, argV_len r]
theorem agree_args {n : Nat} : ∀ (L : Live) (x : LT L) (env : Env) (tmps : Array Value), noDup (L.map (·.1)) = true → (∀ s ∈ L.map (·.1), s < n) → tmps.size = n → (∀ i, tmps.getD i undef = env i) →
    ((((L.map (·.1)).zip (argV L x)).foldl (fun t (q : Nat × Value) => t.setIfInBounds q.1 q.2) tmps).size = n ∧ ∀ i, (((L.map (·.1)).zip (argV L x)).foldl (fun t (q : Nat × Value) => t.setIfInBounds q.1 q.2) tmps).getD i undef = ovr L x env i) := by
  intro L
  induction L with
  | nil => intro x env tmps _ _ h1 h2; exact ⟨h1, h2⟩
  | cons y L ih =>
    obtain ⟨s, t⟩ := y
    intro x env tmps hd hlt h1 h2
    simp only [List.map_cons, noDup, Bool.and_eq_true, Bool.not_eq_true'] at hd
    have hns : s ∉ L.map (·.1) := fun hm => by
      have : ((L.map (·.1)).any (Nat.beq s)) = true := List.any_eq_true.2 ⟨s, hm, by simp⟩
      rw [hd.1] at this; cases this
    have hs : s < n := hlt s (by simp)
    have := ih x.2 (upd env s (val t x.1)) (tmps.setIfInBounds s (val t x.1)) hd.2 (fun s' hs' => hlt s' (by simp only [List.map_cons, List.mem_cons]; exact Or.inr hs')) (by simp [h1]) (fun i => by
      rw [upd_eq]
      have := h2 i
      by_cases e : i = s
      · subst e; simp [h1, hs]
      · simp only [e, if_false]
        simp only [Array.getD_eq_getD_getElem?] at this ⊢
        rw [Array.getElem?_setIfInBounds_ne (Ne.symm e)]
        exact this)
    refine ⟨this.1, fun i => ?_⟩
    simp only [ovr]
    rw [← ovr_upd L x.2 env s _ hns]
    exact this.2 i

theorem sound {n : Nat} (hm : P.follows .mixedOrders = true) (anns : List (Nat × Live)) : ∀ (c : Code) (ρ : Option Nat) (t : Bool) (Q : Exit → List Nat → Env → World → Prop) (m : List Nat) (env : Env) (a : Act) (w : World),
    checkB P n t c = true → (t = true → ρ = none) → den P anns c Q m env w → Agree n m env a → c.wpIn (FW ρ) 0 P (Lift n m (noR c) (dsts c) env Q) a w := by
  intro c
  induction c with
  | skip => intro ρ t Q m env a w _ _ h ha; exact wpIn_skip ⟨m, env, ha, fun _ _ => rfl, fun _ => rfl, h⟩
  | region id ops d =>
    intro ρ t Q m env a w hc _ h ha
    have hc : (ops.toList.all fun o => match o.dst with | some d => Nat.blt d n | none => true) = true ∧ (d = true → checkDraw ops = true) := by
      clear h
      cases d <;> cases t <;> simp only [checkB, Bool.and_eq_true] at hc <;> exact ⟨hc.1, fun e => (by first | exact hc.2 | cases e)⟩
    simp only [List.all_eq_true] at hc
    have hd : ∀ o ∈ ops.toList, ∀ d, o.dst = some d → d < n := by
      intro o ho d hd
      have := hc.1 o ho
      rw [hd] at this
      simpa [Nat.blt_eq] using this
    cases d with
    | false =>
      simp only [den] at h
      exact wpIn_region_list (opsF_sound ops.toList [] env a w hd (fun env' a' w' ha' hf hk => ⟨m, env', ha', hf, fun _ => rfl, hk⟩) h ha)
    | true =>
      simp only [den, drawK] at h
      have hd' : ∀ (i : Nat) (o : Oper), ops[i]? = some o → ∀ d, o.dst = some d → d < n := fun i o ho => hd o (by simpa using Array.mem_of_getElem? ho)
      have ch := checkDraw_spec (P := P) (hc.2 rfl) hd'
      exact wpIn_region_any hm (drawF_sound (K := fun env w => Q .normal m env w) ch (fun env' a' w' ha' hf hk => ⟨m, env', ha', hf, fun _ => rfl, hk⟩) ha h)
  | seq x y ihx ihy =>
    intro ρ t Q m env a w hc hρ h ha
    have hc : checkB P n t x = true ∧ checkB P n t y = true := by cases t <;> simpa only [checkB, Bool.and_eq_true] using hc
    simp only [den] at h
    refine wpIn_seq ?_
    split at h
    · refine Code.wpIn_mono ?_ (ihx ρ t _ m env a w hc.1 hρ h ha)
      rintro e a' w' ⟨m', env', ha', hf, hmm, hq⟩
      cases e with
      | normal =>
        refine Code.wpIn_mono ?_ (ihy ρ t _ m' env' a' w' hc.2 hρ hq ha')
        rintro e a2 w2 ⟨m2, env2, ha2, hf2, hmm2, hq2⟩
        refine ⟨m2, env2, ha2, fun s hs => ?_, fun hr => ?_, hq2⟩
        · simp only [dsts, List.mem_append, not_or] at hs
          rw [hf2 s hs.2, hf s hs.1]
        · simp only [noR, Bool.and_eq_true] at hr
          rw [hmm2 hr.2, hmm hr.1]
      | _ => exact ⟨m', env', ha', fun s hs => hf s (by simp only [dsts, List.mem_append, not_or] at hs; exact hs.1), fun hr => hmm (by simp only [noR, Bool.and_eq_true] at hr; exact hr.1), hq⟩
    · rename_i L hL
      split at h
      · rename_i hnr
        obtain ⟨R, hA, hR⟩ := h
        refine Code.wpIn_mono ?_ (ihx ρ t _ m env a w hc.1 hρ hA ha)
        rintro e a' w' ⟨m', env', ha', hf, hmm, hq⟩
        have hmm := hmm hnr
        subst hmm
        cases e with
        | normal =>
          obtain ⟨x, hx, hov⟩ := rd_spec _ _ _ hq
          have hb := hR x w' hx env'
          rw [hov _ (fun s _ => by
            rw [havoc_eq]
            split
            · rfl
            · exact (hf s (by assumption)).symm)] at hb
          refine Code.wpIn_mono ?_ (ihy ρ t _ m' env' a' w' hc.2 hρ hb ha')
          rintro e a2 w2 ⟨m2, env2, ha2, hf2, hmm2, hq2⟩
          refine ⟨m2, env2, ha2, fun s hs => ?_, fun hr => ?_, hq2⟩
          · simp only [dsts, List.mem_append, not_or] at hs
            rw [hf2 s hs.2, hf s hs.1]
          · simp only [noR, Bool.and_eq_true] at hr
            exact hmm2 hr.2
        | _ => exact ⟨m', env', ha', fun s hs => hf s (by simp only [dsts, List.mem_append, not_or] at hs; exact hs.1), fun _ => rfl, hq⟩
      · cases h
  | cond c x y ihx ihy =>
    intro ρ t Q m env a w hc hρ h ha
    have hc : checkB P n t x = true ∧ checkB P n t y = true := by cases t <;> simpa only [checkB, Bool.and_eq_true] using hc
    simp only [den] at h
    split at h
    · rename_i tt ht
      refine wpIn_cond_split (t := tt) (by rw [ha.eval]; exact ht) (fun e => ?_) (fun e => ?_)
      · refine Code.wpIn_mono ?_ (ihx ρ t _ m env a w hc.1 hρ (gd_left h e) ha)
        rintro e a' w' ⟨m', env', ha', hf, hmm, hq⟩
        exact ⟨m', env', ha', fun s hs => hf s (by simp only [dsts, List.mem_append, not_or] at hs; exact hs.1), fun hr => hmm (by simp only [noR, Bool.and_eq_true] at hr; exact hr.1), hq⟩
      · refine Code.wpIn_mono ?_ (ihy ρ t _ m env a w hc.2 hρ (gd_right h e) ha)
        rintro e a' w' ⟨m', env', ha', hf, hmm, hq⟩
        exact ⟨m', env', ha', fun s hs => hf s (by simp only [dsts, List.mem_append, not_or] at hs; exact hs.2), fun hr => hmm (by simp only [noR, Bool.and_eq_true] at hr; exact hr.2), hq⟩
    · cases h
  | block id c ih =>
    intro ρ t Q m env a w hc hρ h ha
    have hc : checkB P n t c = true := by cases t <;> simpa only [checkB] using hc
    simp only [den] at h
    refine wpIn_block (Code.wpIn_mono ?_ (ih ρ t _ m env a w hc hρ h ha))
    rintro e a' w' ⟨m', env', ha', hf, hmm, hq⟩
    cases e with
    | exit i =>
      simp only [Exit.inBlock]
      dsimp only at hq
      split at hq
      · rename_i e1
        rw [if_pos (Nat.eq_of_beq_eq_true e1)]
        exact ⟨m', env', ha', hf, hmm, hq⟩
      · rename_i e1
        rw [if_neg (fun e2 => by subst e2; simp at e1)]
        exact ⟨m', env', ha', hf, hmm, hq⟩
    | _ => exact ⟨m', env', ha', hf, hmm, hq⟩
  | loop c ih =>
    intro ρ t Q m env a w hc hρ h ha
    have hc : checkB P n false c = true := by cases t <;> simpa only [checkB] using hc
    simp only [den] at h
    split at h
    · rename_i L hnr hL
      obtain ⟨x0, ⟨I, μ, h0, hstep⟩, hov0⟩ := rd_spec _ _ _ h
      refine wpIn_loop_rel (X := LT L) (fun x a' w' => I x w' ∧ ∃ env', Agree n m env' a' ∧ (∀ s, s ∉ dsts c → env' s = env s) ∧ (∀ e, (∀ s, s ∉ L.map (·.1) → e s = env' s) → ovr L x e = env')) μ x0
        ⟨h0, env, ha, fun _ _ => rfl, hov0⟩ ?_
      rintro x a' w' ⟨hI, env', ha', hf, hov⟩
      have hb := hstep x w' hI env'
      rw [hov _ (fun s _ => by
          rw [havoc_eq]
          split
          · rfl
          · exact (hf s (by assumption)).symm)] at hb
      refine Code.wpIn_mono ?_ (ih ρ false _ m env' a' w' hc (fun h => by cases h) hb ha')
      rintro e a2 w2 ⟨m2, env2, ha2, hf2, hmm2, hq2⟩
      have hmm2 := hmm2 hnr
      subst hmm2
      have hf' : ∀ s, s ∉ dsts c → env2 s = env s := fun s hs => by rw [hf2 s hs, hf s hs]
      cases e with
      | normal =>
        obtain ⟨x', hx', hov'⟩ := rd_spec _ _ _ hq2
        exact ⟨x', ⟨hx'.1, env2, ha2, hf', hov'⟩, hx'.2⟩
      | _ => exact ⟨m2, env2, ha2, hf', fun _ => rfl, hq2⟩
    · cases h
  | exit id => intro ρ t Q m env a w _ _ h ha; exact wpIn_exit ⟨m, env, ha, fun _ _ => rfl, fun _ => rfl, h⟩
  | ret => intro ρ t Q m env a w _ _ h ha; exact wpIn_ret ⟨m, env, ha, fun _ _ => rfl, fun _ => rfl, h⟩
  | label l => intro ρ t Q m env a w _ _ h ha; exact wpIn_label ⟨m, env, ha, fun _ _ => rfl, fun _ => rfl, h⟩
  | rangeFunc g ps x y ihx ihy =>
    intro ρ t Q m env a w hc hρ h ha
    have hc : t = true ∧ (ps.toList.all fun d => Nat.blt d n) = true ∧ checkB P n false x = true ∧ checkB P n false y = true := by
      cases t <;> simpa only [checkB, Bool.and_eq_true, and_assoc] using hc
    obtain ⟨ht, hps, hcx, hcy⟩ := hc
    have hρ := hρ ht
    subst hρ
    simp only [den] at h
    split at h
    · cases h
    · rename_i L hL
      split at h
      · rename_i hsame
        simp only [Bool.and_eq_true] at hsame
        have hps2 := sameL_eq _ _ hsame.1.1
        have hdup := hsame.1.2
        have hnx := hsame.2
        obtain ⟨gf, first, captured, hv, hbf, hR⟩ := h
        refine wpIn_rangeFunc fun fn _ => ?_
        -- the loop's record
        obtain ⟨r, hr⟩ : ∃ r : Loop, r = { state := .ready, pending := none, fn := fn, tmps := a.tmps, params := ps, assign := x, body := y, defers := w.heap.size } := ⟨_, rfl⟩
        have hrec : recS r .ready none = { state := .ready, pending := none, fn := fn, tmps := a.tmps, params := ps, assign := x, body := y, defers := w.heap.size } := by rw [hr]; rfl
        have hcall := hR r fun x1 w1 K hl hB => by
          refine ⟨fn, (ps.zip (argV L x1).toArray).foldl (fun t (q : Nat × Value) => t.setIfInBounds q.1 q.2) a.tmps, x, y, ?_, ?_⟩
          · have h1 := run_yield (P := P) (args := (argV L x1).toArray) hl (by rw [hrec]; show (argV L x1).toArray.size = ps.size; rw [List.size_toArray, argV_len, ← Array.length_toList, hps2, List.length_map])
            rw [hrec] at h1
            simpa using h1
          · have hag : Agree n [] (ovr L x1 env) { tmps := (ps.zip (argV L x1).toArray).foldl (fun t (q : Nat × Value) => t.setIfInBounds q.1 q.2) a.tmps, defers := [] } := by
              have := agree_args (n := n) L x1 env a.tmps hdup (fun s hs => by
                rw [← hps2] at hs
                have := List.all_eq_true.1 hps s hs
                simpa [Nat.blt_eq] using this) ha.size ha.get
              have e : (ps.zip (argV L x1).toArray).foldl (fun t (q : Nat × Value) => t.setIfInBounds q.1 q.2) a.tmps = (((L.map (·.1)).zip (argV L x1)).foldl (fun t (q : Nat × Value) => t.setIfInBounds q.1 q.2) a.tmps) := by
                rw [← hps2, ← Array.foldl_toList, Array.toList_zip]
              rw [e]
              exact ⟨this.1, rfl, this.2⟩
            refine roundIn_of_wpIn (F := Fence.wide) trivial ?_
            refine Code.wpIn_mono (Q := Lift n [] (noR x) (dsts x) (ovr L x1 env) _) ?_ (ihx (some (w.heap.size + 1)) false _ [] (ovr L x1 env) _ w1 hcx (fun h => by cases h) hB hag)
            rintro e a2 w2 ⟨m2, env2, ha2, hf2, hm2, hq2⟩
            have hm2 := hm2 hnx
            subst hm2
            cases e with
            | normal =>
              dsimp only at hq2
              obtain ⟨hl2, hq2⟩ := hq2
              refine ⟨_, run_beginRound hl2 rfl, ?_⟩
              refine Code.wpIn_mono (Q := Lift n [] (noR y) (dsts y) env2 _) ?_ (ihy (some (w.heap.size + 1)) false _ [] env2 a2 _ hcy (fun h => by cases h) hq2 ha2)
              rintro e a3 w3 ⟨m3, env3, ha3, hf3, _, hq3⟩
              cases e with
              | normal =>
                obtain ⟨hl3, hq3⟩ := hq3
                exact ⟨_, _, run_endRound none hl3, true, rfl, hq3⟩
              | ret =>
                obtain ⟨hl3, hq3⟩ := hq3
                exact ⟨_, _, run_endRound (some .ret) hl3, false, rfl, hq3⟩
              | _ => cases hq3
            | _ => cases hq2
        have hcall2 : Calls P gf (first.toList ++ [Value.func (.yield (w.heap.size + 1)) #[] #[]] ++ captured.toList).toArray ((w.alloc (.deferred (some []))).alloc (.loop (recS r .ready none))) _ := hcall
        have ea : (first.toList ++ [Value.func (.yield (w.heap.size + 1)) #[] #[]] ++ captured.toList).toArray = first ++ #[.func (.yield (w.heap.size + 1)) #[] #[]] ++ captured := by apply Array.ext'; simp
        rw [ea] at hcall2
        have hag : a.eval g = .func (.func gf) first captured := by rw [ha.eval]; exact hv
        unfold bodyful at hbf
        split at hbf
        rotate_left
        · cases hbf
        rename_i gfn hgf
        simp only [Bool.and_eq_true, bne_iff_ne, ne_eq] at hbf
        obtain ⟨gc, hgc⟩ := Option.isSome_iff_exists.1 hbf.2
        have hel := run_enterLoop_outer (P := P) (w := w) fn a.tmps ps x y
        rw [← hrec] at hel
        generalize hW1 : (w.alloc (.deferred (some []))).alloc (.loop (recS r .ready none)) = W1 at hel hcall2
        refine ⟨w.heap.size + 1, [markD w.heap.size], W1, { target := .fn (.func gf) captured, args := first ++ #[.func (.yield (w.heap.size + 1)) #[] #[]] }, W1, gf, first ++ #[.func (.yield (w.heap.size + 1)) #[] #[]] ++ captured, W1, hel, ?_, fun _ _ => trivial, ?_, (fun h => by cases h), ?_⟩
        · simp [resolve, rangeCall, hag, Deferred.ofValue]
          rfl
        · simp [invoke, callFunc, hgf, hbf.1, hgc]
        · have h2 : CallsIn Fence.wide (0 - 1) P gf _ _ _ := callsIn_wide.2 hcall2
          refine CallsIn.mono (F := FW none) h2 ?_
          rintro e w3 ⟨_, he, st, j, hst, hl3, hq⟩
          subst he
          refine ⟨j, _, run_endLoop hl3 hst, ?_⟩
          have hag2 : Agree n (w.heap.size :: m) env { a with defers := [markD w.heap.size] ++ a.defers } := ⟨ha.size, by show [markD w.heap.size] ++ a.defers = _; rw [ha.defers]; rfl, ha.get⟩
          cases j with
          | none => exact ⟨_, env, hag2, fun _ _ => rfl, (fun h => by cases h), hq⟩
          | some c =>
            cases c with
            | ret => exact wpIn_ret ⟨_, env, hag2, fun _ _ => rfl, (fun h => by cases h), hq⟩
            | _ => cases hq
      · cases h
  | _ => intro ρ t Q m env a w _ _ h _; simp only [den] at h


theorem resK_run {env : Env} {n : Nat} {m : List Nat} {a : Act} {w : World} (ha : Agree n m env a) : ∀ (rs : List ResultVar) (acc : List Value) (K : Value → Prop), resK P env w rs acc K →
    ∃ vs : List Value, (rs.mapM (m := Sem) fun
      | .tmp t => pure (a.tmps.getD t undef)
      | .cell x t => do loadVar t (← asAddr (a.tmps.getD x undef))).run P w = .ok vs w ∧ K (match acc.reverse ++ vs with | [v] => v | vs => .tuple vs.toArray) := by
  intro rs
  induction rs with
  | nil =>
    intro acc K h
    refine ⟨[], by simp, ?_⟩
    simp only [resK] at h
    rw [List.append_nil]
    split at h
    · rename_i v e; rw [e]; exact h
    · rename_i hne
      split
      · rename_i v e; exact absurd e (hne v)
      · exact h
  | cons r rs ih =>
    intro acc K h
    cases r with
    | tmp t =>
      simp only [resK] at h
      obtain ⟨vs, h1, h2⟩ := ih _ K h
      refine ⟨env t :: vs, ?_, by simpa using h2⟩
      simp only [List.mapM_cons, Sem.run_bind, Sem.run_pure, Result.andThen_ok, h1, ha.get t]
    | cell x t =>
      simp only [resK] at h
      split at h
      · rename_i p ho e
        obtain ⟨y, hy, h⟩ := h
        obtain ⟨vs, h1, h2⟩ := ih _ K h
        refine ⟨val (tyOf P 9 t) y :: vs, ?_, by simpa using h2⟩
        have e' : a.tmps.getD x undef = .pointer (some p) := by rw [ha.get x, e]
        have has : (asAddr (a.tmps.getD x undef)).run P w = .ok p w := by rw [e']; rfl
        simp only [List.mapM_cons, Sem.run_bind, has, Result.andThen_ok, run_loadVar_at ho hy, h1, Sem.run_pure]
      · cases h

theorem resK_results {env : Env} {n : Nat} {m : List Nat} {fn : Func} {a : Act} {w : World} (ha : Agree n m env a) {K : Value → Prop} (h : resK P env w fn.results.toList [] K) :
    ∃ v, (results fn a.tmps).run P w = .ok v w ∧ K v := by
  obtain ⟨vs, h1, h2⟩ := resK_run ha _ _ _ h
  refine ⟨_, ?_, h2⟩
  unfold results
  rw [Array.mapM_eq_mapM_toList, Sem.run_bind, Sem.run_map]
  erw [h1]
  simp only [Result.andThen_ok, Sem.run_pure, List.reverse_nil, List.nil_append]
  match vs with
  | [] => simp
  | [v] => simp
  | u :: v :: r => simp

theorem leaves_shut {n : Nat} {fn : Func} {tmps : Array Value} {R : Ending → World → Prop} : ∀ (m : List Nat) (w : World), shutL m w (fun w' => LeavesInM Fence.wide n P fn tmps R [] .returning w') → LeavesInM Fence.wide n P fn tmps R (m.map markD) .returning w
  | [], w, h => h
  | D :: m, w, ⟨h1, h2⟩ => ⟨by simp, .inl ⟨D, _, rfl, run_takeDeferred h1, leaves_shut m _ h2⟩⟩
theorem shutL_mono {K K' : World → Prop} (h : ∀ w, K w → K' w) : ∀ (m : List Nat) (w : World), shutL m w K → shutL m w K'
  | [], w, hk => h w hk
  | D :: m, w, ⟨h1, h2⟩ => ⟨h1, shutL_mono h m _ h2⟩
theorem fn_sound' {anns : List (Nat × Live)} {f : FuncId} {fn : Func} {args : Array Value} {ty : Ty} {w : World} {K : ty.T → World → Prop} {c : Code}
    (hm : P.follows .mixedOrders = true) (hf : P.funcs[f]? = some fn) (hb : fn.body = some c) (hn : args.size ≤ fn.ntmps) (hc : checkB P fn.ntmps true c = true)
    (h : denFn P anns fn args ty K w) : callP P f args ty w K := by
  unfold callP
  refine (callsIn_wide (n := 0)).1 (callsIn_of_wp_marks hf hb trivial ?_ rfl)
  unfold denFn at h
  rw [hb] at h
  have ha : Agree fn.ntmps [] (envOfArgs args) { tmps := args ++ Array.replicate (fn.ntmps - args.size) undef, defers := [] } := by
    refine ⟨by simp; omega, rfl, fun i => ?_⟩
    unfold envOfArgs
    simp only [Array.getD_eq_getD_getElem?, Array.getElem?_append]
    split
    · rfl
    · rename_i hi
      have e1 : args[i]? = none := Array.getElem?_eq_none (by omega)
      rw [e1, Array.getElem?_replicate]
      split <;> rfl
  have hs := sound hm anns c none true _ [] _ _ w hc (fun _ => rfl) h ha
  refine Code.wpIn_mono ?_ hs
  rintro e a' w' ⟨m', env', ha', _, _, hq⟩
  have key : shutL m' w' (fun w' => resK P env' w' fn.results.toList [] fun v => match un ty v with | some r => K r w' | none => False) → LeavesInM Fence.wide 0 P fn a'.tmps (fun e w' => ∃ r, e = .returned (val ty r) ∧ K r w') a'.defers .returning w' := by
    intro hq
    rw [ha'.defers]
    refine leaves_shut _ _ (shutL_mono (fun w2 hk => ?_) _ _ hq)
    obtain ⟨v, hv, hK⟩ := resK_results ha' hk
    split at hK
    · rename_i r hr
      exact ⟨v, hv, r, by rw [un_eq _ _ _ hr], hK⟩
    · cases hK
  cases e with
  | normal => exact key hq
  | ret => exact key hq
  | _ => cases hq


def checkFn (P : Program) (fn : Func) (k : Nat) : Bool := match fn.body with
  | some c => Nat.ble k fn.ntmps && checkB P fn.ntmps true c
  | none => false

theorem fn_sound (hm : P.follows .mixedOrders = true) {anns : List (Nat × Live)} {f : FuncId} {fn : Func} {args : Array Value} {ty : Ty} {w : World} {K : ty.T → World → Prop}
    (hf : P.funcs[f]? = some fn) (hc : checkFn P fn args.size = true) (h : denFn P anns fn args ty K w) : callP P f args ty w K := by
  unfold checkFn at hc
  split at hc
  · rename_i c hb
    simp only [Bool.and_eq_true] at hc
    exact fn_sound' hm hf hb (Nat.le_of_ble_eq_true hc.1) hc.2 h
  · cases hc

end Go.Den
