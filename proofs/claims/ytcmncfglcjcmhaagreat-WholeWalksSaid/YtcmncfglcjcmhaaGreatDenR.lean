/- Texts that belong together, joined: DenR. No conditions. -/
import Derived.OrdersIn
import Derived.TacticsIn
import Derived.Test.YtcmncfglcjcmhaaGreatDenT
/- The soundness of the denotation: regions, also those that draw their order, and code. -/
set_option linter.unusedSectionVars false
set_option linter.unusedVariables false
set_option linter.unusedSimpArgs false
namespace Go.Den

variable [EntTys]
variable {P : Program} {ops : Array Oper} {n : Nat} {Q : Exit → Act → World → Prop} {ρ : Option Nat} {m : List Nat}

/-- a run to a value is no defer statement's -/
theorem nd_of_value {o : Oper} {f : Operand → Value} {v : Value} {w w' : World} (h : (execOp f o).run P w = .ok (.value v) w') : ∀ c, o.op ≠ .defer c := by
  intro c e
  unfold execOp at h
  rw [e] at h
  simp only [Sem.run_bind, Sem.run_map] at h
  cases hr : (resolve f c o.type).run P w <;> rw [hr] at h <;> simp [Result.andThen] at h
def markD (D : Nat) : Deferred := { target := .collected D, args := #[] }

structure Agree (n : Nat) (m : List Nat) (env : Env) (a : Act) : Prop where
  size : a.tmps.size = n
  defers : a.defers = m.map markD
  get : ∀ i, a.tmps.getD i undef = env i

theorem Agree.eval {env : Env} {a : Act} (h : Agree n m env a) : a.eval = ev env := by
  funext x
  cases x with
  | tmp t => exact h.get t
  | _ => rfl

theorem upd_eq (env : Env) (d : Nat) (v : Value) (s : Nat) : upd env d v s = if s = d then v else env s := by
  unfold upd
  by_cases h : s = d
  · subst h; simp
  · have : Nat.beq s d = false := by
      cases e : Nat.beq s d with
      | false => rfl
      | true => exact absurd (Nat.eq_of_beq_eq_true e) h
    simp [this, h]

theorem upd_same {env : Env} {d : Nat} {v : Value} (h : env d = v) : upd env d v = env := by
  funext s
  rw [upd_eq]
  split
  · rename_i e; rw [e, h]
  · rfl

theorem Agree.put {env : Env} {a : Act} (h : Agree n m env a) (dst : Option Tmp) (v : Value) (hd : ∀ d, dst = some d → d < n) : Agree n m (putE env dst v) (a.put dst v) := by
  cases dst with
  | none => exact h
  | some d =>
    have hlt := hd d rfl
    refine ⟨by simp [Act.put, h.size], by simp [Act.put, h.defers], fun i => ?_⟩
    simp only [Act.put, putE, upd_eq]
    have := h.get i
    by_cases e : i = d
    · subst e; simp [h.size, hlt]
    · simp only [e, if_false]
      simp only [Array.getD_eq_getD_getElem?] at this ⊢
      rw [Array.getElem?_setIfInBounds_ne (Ne.symm e)]
      exact this

def wantedE (ops : Array Oper) (o : Oper) (env : Env) : Bool := match o.guard with
  | none => true
  | some (g, want) => match (ops[g]?).bind (·.dst) with
    | none => false
    | some d => match env d with
      | .bool b => b == want
      | _ => false

theorem Agree.wanted {env : Env} {a : Act} (h : Agree n m env a) (o : Oper) : Region.wanted o (yielded ops a.tmps) = wantedE ops o env := by
  unfold Region.wanted wantedE
  cases o.guard with
  | none => rfl
  | some gw =>
    obtain ⟨g, want⟩ := gw
    simp only [yielded]
    cases (ops[g]?).bind (·.dst) with
    | none => simp
    | some d =>
      have := h.get d
      simp only [Array.getD_eq_getD_getElem?] at this
      simp only [Option.bind_some]
      cases hd : a.tmps[d]? with
      | none => rw [hd] at this; simp only [Option.getD_none] at this; rw [← this]; simp [undef]
      | some v =>
        rw [hd] at this
        simp only [Option.getD_some] at this
        rw [← this]
        cases v <;> simp

theorem guardK_sound {known : List Nat} {o : Oper} {env : Env} {A B : List Nat → Env → Prop} (h : guardK ops known o env A B) :
    ∃ known', (wantedE ops o env = true ∧ A known' env) ∨ (wantedE ops o env = false ∧ B known' env) := by
  unfold guardK at h
  unfold wantedE
  split at h
  · rename_i e; rw [e]; exact ⟨_, .inl ⟨rfl, h⟩⟩
  · rename_i g want e
    rw [e]
    dsimp only
    split at h
    · cases h
    · rename_i d hd
      rw [hd]
      dsimp only
      split at h
      · split at h
        · rename_i e2
          rw [e2]
          cases want
          · exact ⟨_, .inr ⟨rfl, h⟩⟩
          · exact ⟨_, .inl ⟨rfl, h⟩⟩
        · rename_i e2
          rw [e2]
          cases want
          · exact ⟨_, .inl ⟨rfl, h⟩⟩
          · exact ⟨_, .inr ⟨rfl, h⟩⟩
        · rename_i e2
          rw [e2]
          exact ⟨_, .inr ⟨rfl, h⟩⟩
        · cases h
      · split at h
        · rename_i b e2
          rw [e2]
          cases want
          · cases b
            · have := gd_right h rfl
              rw [upd_same e2] at this
              exact ⟨_, .inl ⟨rfl, this⟩⟩
            · have := gd_left h rfl
              rw [upd_same e2] at this
              exact ⟨_, .inr ⟨rfl, this⟩⟩
          · cases b
            · have := gd_right h rfl
              rw [upd_same e2] at this
              exact ⟨_, .inr ⟨rfl, this⟩⟩
            · have := gd_left h rfl
              rw [upd_same e2] at this
              exact ⟨_, .inl ⟨rfl, this⟩⟩
        · rename_i e2
          rw [e2]
          exact ⟨_, .inr ⟨rfl, h⟩⟩
        · cases h

theorem putE_frame (env : Env) (dst : Option Tmp) (v : Value) (s : Nat) (h : dst ≠ some s) : putE env dst v s = env s := by
  cases dst with
  | none => rfl
  | some d =>
    simp only [putE, upd_eq]
    rw [if_neg]
    intro e; subst e; exact h rfl

theorem opsF_sound {K : Env → World → Prop} : ∀ (l : List Oper) (known : List Nat) (env : Env) (a : Act) (w : World), (∀ o ∈ l, ∀ d, o.dst = some d → d < n) →
    (∀ env' a' w', Agree n m env' a' → (∀ s, s ∉ l.filterMap (·.dst) → env' s = env s) → K env' w' → Q .normal a' w') →
    opsF P ops K l known env w → Agree n m env a → wpListIn (FW ρ) 0 P ops Q l a w := by
  intro l
  induction l with
  | nil => intro known env a w _ hQ h ha; exact hQ env a w ha (fun _ _ => rfl) h
  | cons o r ih =>
    intro known env a w hd hQ h ha
    have hdo := hd o (by simp)
    have next : ∀ (v : Value) (known' : List Nat) (w' : World), opsF P ops K r known' (putE env o.dst v) w' → wpListIn (FW ρ) 0 P ops Q r (a.put o.dst v) w' := by
      intro v known' w' h'
      refine ih known' _ _ _ (fun o' ho' => hd o' (by simp [ho'])) (fun env' a' w' ha' hf hk => hQ env' a' w' ha' (fun s hs => ?_) hk) h' (ha.put o.dst v hdo)
      cases hds : o.dst with
      | none => rw [hf s (by simpa [List.filterMap_cons, hds] using hs), hds]; rfl
      | some d =>
        simp only [List.filterMap_cons, hds, List.mem_cons, not_or] at hs
        rw [hf s hs.2, hds, putE_frame]
        intro e; cases e; exact hs.1 rfl
    simp only [opsF] at h
    unfold wpListIn
    rw [ha.wanted o]
    obtain ⟨known', ⟨hw, hA⟩ | ⟨hw, hB⟩⟩ := guardK_sound h
    · simp only [hw, if_true]
      split at hA
      · obtain ⟨v, hv, hK⟩ := pure_sound hA
        refine ⟨fun _ _ => trivial, ?_⟩
        rw [Oper.semAt_eq _ _ _ (nd_of_value (hv w)), ha.eval, hv w]
        exact next v known' w hK
      · obtain ⟨v, c, hc, hv, hK⟩ := read_sound hA
        refine ⟨fun _ _ => trivial, ?_⟩
        rw [Oper.semAt_eq _ _ _ (nd_of_value (hv w hc)), ha.eval, hv w hc]
        exact next v known' w hK
      · refine Oper.wpIn_mono (fun a' w' ⟨v, ha', hK⟩ => ?_) (act_sound hA ρ a Q (by rw [ha.eval]))
        subst ha'
        exact next v known' w' hK
    · simp only [hw, Bool.false_eq_true, if_false]
      exact ⟨fun _ _ => trivial, next undef known' w hB⟩

end Go.Den
