/- Texts that belong together, joined: DenD. No conditions. -/
import Derived.Test.YtcmncfglcjcmhaaGreatDenR
/- The soundness of the denotation: a region that draws its order. One order is told; the operations that only reckon or read may come up later as well, where what they read still stands. -/
set_option linter.unusedSectionVars false
set_option linter.unusedVariables false
set_option linter.unusedSimpArgs false
namespace Go.Den

variable [EntTys]
variable {P : Program} {ops : Array Oper} {n : Nat} {Q : Exit → Act → World → Prop} {ρ : Option Nat} {m : List Nat}

def dstAt (ops : Array Oper) (i : Nat) : Option Tmp := (ops[i]?).bind (·.dst)

def envL (ops : Array Oper) (sel : Nat → Bool) : List (Nat × Value) → Env → Env
  | [], e => e
  | (i, v) :: tr, e => match sel i with
    | true => putE (envL ops sel tr e) (dstAt ops i) v
    | false => envL ops sel tr e

/-- j must have come up before i -/
inductive Bef (ops : Array Oper) : Nat → Nat → Prop
  | edge {i e : Nat} {o : Oper} (ho : ops[i]? = some o) (he : e ∈ bindsOn o) : Bef ops e i
  | step {i e j : Nat} {o : Oper} (ho : ops[i]? = some o) (he : e ∈ bindsOn o) (h : Bef ops j e) : Bef ops j i

theorem foldl_bits (acc : List Nat) (j : Nat) : ∀ (es : List Nat) (m : Nat), bit (es.foldl (fun m e => m ||| (1 <<< e) ||| acc.getD e 0) m) j = true → bit m j = true ∨ ∃ e ∈ es, j = e ∨ bit (acc.getD e 0) j = true := by
  intro es
  induction es with
  | nil => intro m h; exact .inl h
  | cons e es ih =>
    intro m h
    simp only [List.foldl_cons] at h
    rcases ih _ h with h | ⟨e', he', h⟩
    · unfold bit at h
      simp only [Nat.testBit_or, Bool.or_eq_true] at h
      rcases h with (h | h) | h
      · exact .inl h
      · refine .inr ⟨e, by simp, .inl ?_⟩
        rw [Nat.one_shiftLeft, Nat.testBit_two_pow] at h
        exact (of_decide_eq_true h).symm
      · exact .inr ⟨e, by simp, .inr h⟩
    · exact .inr ⟨e', by simp [he'], h⟩

theorem masks_append : ∀ (l : List Oper) (acc : List Nat) (i : Nat), i < acc.length → (masks l acc).getD i 0 = acc.getD i 0 := by
  intro l
  induction l with
  | nil => intro acc i _; rfl
  | cons o l ih =>
    intro acc i h
    simp only [masks]
    rw [ih _ _ (by simp; omega)]
    simp [List.getD_eq_getElem?_getD, List.getElem?_append_left h]

theorem masks_sound : ∀ (l : List Oper) (acc : List Nat) (k : Nat), acc.length = k → (∀ i, l[i]? = ops[k + i]?) →
    (∀ i j, i < k → bit (acc.getD i 0) j = true → Bef ops j i) →
    (∀ i o, ops[i]? = some o → ∀ e ∈ bindsOn o, e < i) →
    ∀ i j, bit ((masks l acc).getD i 0) j = true → Bef ops j i := by
  intro l
  induction l with
  | nil =>
    intro acc k hk _ h _ i j hb
    simp only [masks] at hb
    by_cases hi : i < k
    · exact h i j hi hb
    · rw [List.getD_eq_getElem?_getD, List.getElem?_eq_none (by omega)] at hb
      simp [bit] at hb
  | cons o l ih =>
    intro acc k hk hl h he i j hb
    simp only [masks] at hb
    have h0 : ops[k]? = some o := by have := hl 0; simpa using this.symm
    refine ih _ (k + 1) (by simp [hk]) (fun i => by have := hl (i + 1); rw [show k + 1 + i = k + (i + 1) by omega, ← this]; simp) (fun i j hi hb => ?_) he i j hb
    by_cases hik : i < k
    · refine h i j hik ?_
      rwa [List.getD_eq_getElem?_getD, List.getElem?_append_left (by omega), ← List.getD_eq_getElem?_getD] at hb
    · have : i = k := by omega
      subst this
      rw [List.getD_eq_getElem?_getD, List.getElem?_append_right (by omega)] at hb
      simp only [hk, Nat.sub_self, List.getElem?_cons_zero, Option.getD_some] at hb
      rcases foldl_bits acc j _ _ hb with h1 | ⟨e, hm, h1 | h1⟩
      · simp [bit] at h1
      · subst h1; exact .edge h0 hm
      · exact .step h0 hm (h e j (he _ _ h0 e hm) h1)

theorem Bef.of_closed {c : Nat → Prop} (hc : ∀ i o, ops[i]? = some o → c i → ∀ e ∈ bindsOn o, c e) {j i : Nat} (h : Bef ops j i) : c i → c j := by
  induction h with
  | edge ho he => exact fun hi => hc _ _ ho hi _ he
  | step ho he _ ih => exact fun hi => ih (hc _ _ ho hi _ he)

theorem Bef.of_edges {c : Nat → Prop} (hc : ∀ i o, ops[i]? = some o → c i → ∀ e ∈ bindsOn o, c e) {j i : Nat} (h : Bef ops j i) {o : Oper} (ho : ops[i]? = some o) (hi : ∀ e ∈ bindsOn o, c e) : c j := by
  cases h with
  | edge ho' he => rw [ho] at ho'; cases ho'; exact hi _ he
  | step ho' he h => rw [ho] at ho'; cases ho'; exact h.of_closed hc (hi _ he)

theorem mem_bindsOn {o : Oper} {e : Nat} : e ∈ bindsOn o ↔ ∃ x ∈ o.after, Region.binds .any x = true ∧ x.on = e := by
  simp only [bindsOn, List.mem_map, List.mem_filter, Array.mem_toList_iff]
  constructor
  · rintro ⟨x, ⟨h1, h2⟩, h3⟩; exact ⟨x, h1, h2, h3⟩
  · rintro ⟨x, h1, h2, h3⟩; exact ⟨x, ⟨h1, h2⟩, h3⟩

theorem ready_iff {i : Nat} {listed : Array Bool} (hs : listed.size = ops.size) : i ∈ Region.ready .any ops listed ↔ listed.getD i false = false ∧ ∃ o, ops[i]? = some o ∧ ∀ e ∈ bindsOn o, listed.getD e false = true := by
  rw [mem_ready]
  constructor
  · rintro ⟨h0, o, ho, h⟩
    have hlt : i < listed.size := by rw [hs]; exact (Array.getElem?_eq_some_iff.1 ho).1
    refine ⟨by simpa [hlt] using h0, o, ho, fun e he => ?_⟩
    obtain ⟨x, hx, hb, rfl⟩ := mem_bindsOn.1 he
    exact h x hx hb
  · rintro ⟨h0, o, ho, h⟩
    have hlt : i < listed.size := by rw [hs]; exact (Array.getElem?_eq_some_iff.1 ho).1
    refine ⟨by simpa [hlt] using h0, o, ho, fun x hx hb => h _ (mem_bindsOn.2 ⟨x, hx, hb, rfl⟩)⟩

/-- what is known of the region once -/
structure Chk (P : Program) (ops : Array Oper) (ms : List Nat) (n : Nat) : Prop where
  sel : ∀ (i : Nat) (o : Oper) cs b, ops[i]? = some o → o.op ≠ .select cs b
  back : ∀ (i : Nat) (o : Oper), ops[i]? = some o → ∀ e ∈ bindsOn o, e < i
  bef : ∀ i j, bit (ms.getD i 0) j = true → Bef ops j i
  apart : ∀ (i j : Nat) (oi oj : Oper), ops[i]? = some oi → ops[j]? = some oj → i ≠ j → oi.apart ops oj = true ∨ Bef ops j i ∨ Bef ops i j
  dst : ∀ (i : Nat) (o : Oper), ops[i]? = some o → ∀ d, o.dst = some d → d < n

theorem mem_rdyOf {c i : Nat} : i ∈ rdyOf ops.toList c ↔ bit c i = false ∧ ∃ o, ops[i]? = some o ∧ ∀ e ∈ bindsOn o, bit c e = true := by
  unfold rdyOf
  rw [List.mem_filter, List.mem_range]
  have e : ops.toList[i]? = ops[i]? := by simp
  rw [e]
  cases ho : ops[i]? with
  | none => simp
  | some o =>
    have hlt : i < ops.toList.length := by simpa using (Array.getElem?_eq_some_iff.1 ho).1
    simp only [hlt, true_and, Bool.and_eq_true, Bool.not_eq_true', List.all_eq_true, Option.some.injEq, exists_eq_left']

theorem andL_mem {F : Nat → Prop} : ∀ (l : List Nat), andL l F → ∀ i ∈ l, F i := by
  intro l
  induction l with
  | nil => intro _ i hi; cases hi
  | cons x l ih =>
    intro h i hi
    cases l with
    | nil =>
      simp only [List.mem_cons, List.not_mem_nil, or_false] at hi
      subst hi; exact h
    | cons y r =>
      simp only [andL] at h
      rcases List.mem_cons.1 hi with rfl | hi
      · exact h.1
      · exact ih h.2 i hi

theorem bit_set (c i j : Nat) : bit (c ||| (1 <<< i)) j = (bit c j || decide (i = j)) := by
  unfold bit
  rw [Nat.testBit_or, Nat.one_shiftLeft, Nat.testBit_two_pow]

variable {ms : List Nat} {K : Env → World → Prop} {env0 : Env}

/-- what an operation that is told already, and has not come up, yields -/
def Told (P : Program) (ops : Array Oper) (o : Oper) (env : Env) (v : Value) (w : World) (i : Nat) (pend : List (Nat × (World → Prop))) : Prop :=
  (wantedE ops o env = true ∧ ((∀ w', (execOp (ev env) o).run P w' = .ok (.value v) w') ∨
    ∃ c, (i, c) ∈ pend ∧ c w ∧ ∀ w', c w' → (execOp (ev env) o).run P w' = .ok (.value v) w')) ∨ (wantedE ops o env = false ∧ v = undef)

structure Inv (P : Program) (ops : Array Oper) (n : Nat) (m : List Nat) (env0 : Env) (listed : Array Bool) (a : Act) (w : World) (tr : List (Nat × Value)) (pend : List (Nat × (World → Prop))) (c : Nat) : Prop where
  size : listed.size = ops.size
  agree : Agree n m (envL ops (fun i => listed.getD i false) tr env0) a
  sub : ∀ i, listed.getD i false = true → i ∈ tr.map (·.1)
  closed : ∀ i o, ops[i]? = some o → listed.getD i false = true → ∀ e ∈ bindsOn o, listed.getD e false = true
  ordC : ∀ front i v tail, tr = front ++ (i, v) :: tail → ∀ o, ops[i]? = some o → ∀ e ∈ bindsOn o, e ∈ tail.map (·.1)
  nodup : (tr.map (·.1)).Nodup
  bits : ∀ i, bit c i = true ↔ i ∈ tr.map (·.1)
  ok : ∀ front i v tail, tr = front ++ (i, v) :: tail → listed.getD i false = false → ∃ o, ops[i]? = some o ∧ Told P ops o (envL ops (fun _ => true) tail env0) v w i pend

theorem envL_skip {sel : Nat → Bool} {d : Nat} : ∀ (front rest : List (Nat × Value)), (∀ x ∈ front, dstAt ops x.1 = some d → sel x.1 = false) → envL ops sel (front ++ rest) env0 d = envL ops sel rest env0 d := by
  intro front
  induction front with
  | nil => intro rest _; rfl
  | cons x front ih =>
    intro rest h
    obtain ⟨j, u⟩ := x
    simp only [List.cons_append, envL]
    have h1 := ih rest (fun y hy => h y (by simp [hy]))
    cases hs : sel j with
    | true =>
      simp only []
      rw [putE_frame, h1]
      intro e
      have := h (j, u) (by simp) e
      rw [hs] at this; cases this
    | false => exact h1

theorem envL_all {sel : Nat → Bool} {d : Nat} : ∀ (tail : List (Nat × Value)), (∀ x ∈ tail, dstAt ops x.1 = some d → sel x.1 = true) → envL ops sel tail env0 d = envL ops (fun _ => true) tail env0 d := by
  intro tail
  induction tail with
  | nil => intro _; rfl
  | cons x tail ih =>
    intro h
    obtain ⟨j, u⟩ := x
    have h1 := ih (fun y hy => h y (by simp [hy]))
    simp only [envL]
    by_cases hd : dstAt ops j = some d
    · have hs := h (j, u) (by simp) hd
      dsimp only at hs
      simp only [hs, hd, putE, upd_eq]
      simp
    · cases hs : sel j with
      | true => simp only []; rw [putE_frame _ _ _ _ hd, putE_frame _ _ _ _ hd]; exact h1
      | false => simp only []; rw [putE_frame _ _ _ _ hd]; exact h1

theorem envL_frame {sel : Nat → Bool} {s : Nat} : ∀ (tr : List (Nat × Value)), (∀ x ∈ tr, dstAt ops x.1 ≠ some s) → envL ops sel tr env0 s = env0 s := by
  intro tr
  induction tr with
  | nil => intro _; rfl
  | cons x tr ih =>
    intro h
    obtain ⟨j, u⟩ := x
    simp only [envL]
    have h1 := ih (fun y hy => h y (by simp [hy]))
    cases hs : sel j with
    | true => simp only []; rw [putE_frame _ _ _ _ (h (j, u) (by simp))]; exact h1
    | false => exact h1

theorem apart_looks {oi oj : Oper} {j d : Nat} (hj : ops[j]? = some oj) (h : oi.apart ops oj = true) (hd : dstAt ops j = some d) : d ∉ oi.looksAt ops ∧ oi.dst ≠ some d := by
  obtain ⟨_, h2, h3⟩ := Oper.apart_spec h
  have : oj.dst = some d := by simpa [dstAt, hj] using hd
  exact ⟨h3 d this, fun e => h2 d e this⟩

/-- the frame seen by an operation that comes up: what it looks at is what the told order gave it -/
theorem looks_same (ch : Chk P ops ms n) {listed : Array Bool} {a : Act} {w : World} {tr : List (Nat × Value)} {pend : List (Nat × (World → Prop))} {c : Nat} (iv : Inv P ops n m env0 listed a w tr pend c)
    {front : List (Nat × Value)} {i : Nat} {v : Value} {tail : List (Nat × Value)} (ht : tr = front ++ (i, v) :: tail) {o : Oper} (ho : ops[i]? = some o) (hl : listed.getD i false = false)
    (hr : ∀ e ∈ bindsOn o, listed.getD e false = true) (d : Nat) (hd : d ∈ o.looksAt ops ∨ o.dst = some d) :
    (∀ x ∈ front, dstAt ops x.1 = some d → listed.getD x.1 false = false) ∧ (∀ x ∈ tail, dstAt ops x.1 = some d → listed.getD x.1 false = true) := by
  have nd := iv.nodup
  rw [ht, List.map_append, List.map_cons, List.nodup_append] at nd
  obtain ⟨_, nd2, nd3⟩ := nd
  have nd2' := (List.nodup_cons.1 nd2).1
  have hcl : ∀ i o, ops[i]? = some o → listed.getD i false = true → ∀ e ∈ bindsOn o, listed.getD e false = true := iv.closed
  have tailC : ∀ k ok, ops[k]? = some ok → k ∈ tail.map (·.1) → ∀ e ∈ bindsOn ok, e ∈ tail.map (·.1) := by
    intro k ok hk hm e he
    obtain ⟨⟨k', u⟩, hm', hk'⟩ := List.mem_map.1 hm
    dsimp only at hk'
    subst hk'
    obtain ⟨t1, t2, e2⟩ := List.append_of_mem hm'
    have := iv.ordC (front ++ (i, v) :: t1) k' u t2 (by rw [ht, e2]; simp) ok hk e he
    rw [e2, List.map_append, List.map_cons]
    exact List.mem_append_right _ (List.mem_cons_of_mem _ this)
  have key : ∀ x, x ∈ front ∨ x ∈ tail → dstAt ops x.1 = some d → x.1 ≠ i → Bef ops x.1 i ∨ Bef ops i x.1 := by
    intro x _ hx hne
    have : ∃ ox, ops[x.1]? = some ox := by
      cases h : ops[x.1]? with
      | none => simp [dstAt, h] at hx
      | some ox => exact ⟨ox, rfl⟩
    obtain ⟨ox, hox⟩ := this
    rcases ch.apart i x.1 o ox ho hox (Ne.symm hne) with h | h | h
    · have := apart_looks hox h hx
      rcases hd with hd | hd
      · exact absurd hd this.1
      · exact absurd hd this.2
    · exact .inl h
    · exact .inr h
  constructor
  · intro x hx hdx
    have hne : x.1 ≠ i := fun e => nd3 x.1 (List.mem_map_of_mem hx) i (by simp) e
    rcases key x (.inl hx) hdx hne with h | h
    · have hm : x.1 ∈ tail.map (·.1) := h.of_edges (c := fun k => k ∈ tail.map (·.1)) tailC ho (fun e he => iv.ordC _ _ _ _ ht o ho e he)
      exact absurd rfl (nd3 x.1 (List.mem_map_of_mem hx) x.1 (by simp [hm]))
    · cases hb : listed.getD x.1 false with
      | false => rfl
      | true =>
        have := h.of_closed (c := fun k => listed.getD k false = true) hcl hb
        rw [hl] at this; cases this
  · intro x hx hdx
    have hxm : x.1 ∈ tail.map (·.1) := List.mem_map_of_mem hx
    have hne : x.1 ≠ i := fun e => nd2' (e ▸ hxm)
    rcases key x (.inr hx) hdx hne with h | h
    · exact h.of_edges (c := fun k => listed.getD k false = true) hcl ho hr
    · have hm : i ∈ tail.map (·.1) := h.of_closed (c := fun k => k ∈ tail.map (·.1)) tailC (List.mem_map_of_mem hx)
      exact absurd hm nd2'

theorem exec_same {o : Oper} (hs : ∀ cs b, o.op ≠ .select cs b) {e1 e2 : Env} (h : ∀ d, d ∈ o.looksAt ops → e1 d = e2 d) : execOp (ev e1) o = execOp (ev e2) o := by
  refine execOp_congr o hs fun x hx => ?_
  cases x with
  | tmp t => exact h t (List.mem_append_left _ (List.mem_filterMap.2 ⟨.tmp t, by simpa using hx, rfl⟩))
  | _ => rfl

theorem wanted_same {o : Oper} {e1 e2 : Env} (h : ∀ d, d ∈ o.looksAt ops → e1 d = e2 d) : wantedE ops o e1 = wantedE ops o e2 := by
  unfold wantedE
  cases hg : o.guard with
  | none => rfl
  | some gw =>
    obtain ⟨g, want⟩ := gw
    dsimp only
    cases hd : (ops[g]?).bind (·.dst) with
    | none => rfl
    | some d =>
      dsimp only
      rw [h d (by simp [Oper.looksAt, hg, hd])]


/-- an operation is told: it joins the list -/
theorem Inv.tell {listed : Array Bool} {a : Act} {w : World} {tr : List (Nat × Value)} {pend pend' : List (Nat × (World → Prop))} {c : Nat} (iv : Inv P ops n m env0 listed a w tr pend c)
    {i : Nat} {o : Oper} {v : Value} (ho : ops[i]? = some o) (hb : bit c i = false) (he : ∀ e ∈ bindsOn o, bit c e = true) (hp : ∀ x ∈ pend, x ∈ pend')
    (ht : Told P ops o (envL ops (fun _ => true) tr env0) v w i pend') : Inv P ops n m env0 listed a w ((i, v) :: tr) pend' (c ||| (1 <<< i)) := by
  have hni : i ∉ tr.map (·.1) := fun h => by rw [(iv.bits i).2 h] at hb; cases hb
  have hli : listed.getD i false = false := by
    cases h : listed.getD i false with
    | false => rfl
    | true => exact absurd (iv.sub i h) hni
  refine ⟨iv.size, ?_, fun j hj => by simp [iv.sub j hj], iv.closed, ?_, ?_, fun j => ?_, ?_⟩
  · simpa [envL, hli] using iv.agree
  · intro front j u tail ht' o' ho' e he'
    cases front with
    | nil =>
      simp only [List.nil_append, List.cons.injEq, Prod.mk.injEq] at ht'
      obtain ⟨⟨rfl, rfl⟩, rfl⟩ := ht'
      rw [ho] at ho'; cases ho'
      exact (iv.bits e).1 (he e he')
    | cons x front =>
      simp only [List.cons_append, List.cons.injEq] at ht'
      exact iv.ordC front j u tail ht'.2 o' ho' e he'
  · simp only [List.map_cons, List.nodup_cons]; exact ⟨hni, iv.nodup⟩
  · rw [bit_set]
    simp only [Bool.or_eq_true, decide_eq_true_eq, List.map_cons, List.mem_cons, iv.bits j]
    constructor
    · rintro (h | h)
      · exact .inr h
      · exact .inl h.symm
    · rintro (h | h)
      · exact .inr h.symm
      · exact .inl h
  · intro front j u tail ht' hlj
    cases front with
    | nil =>
      simp only [List.nil_append, List.cons.injEq, Prod.mk.injEq] at ht'
      obtain ⟨⟨rfl, rfl⟩, rfl⟩ := ht'
      exact ⟨o, ho, ht⟩
    | cons x front =>
      simp only [List.cons_append, List.cons.injEq] at ht'
      obtain ⟨o', ho', h⟩ := iv.ok front j u tail ht'.2 hlj
      refine ⟨o', ho', h.imp (fun ⟨h1, h2⟩ => ⟨h1, h2.imp id fun ⟨c, h3, h4⟩ => ⟨c, hp _ h3, h4⟩⟩) id⟩

theorem envL_cons {i : Nat} {o : Oper} (ho : ops[i]? = some o) (v : Value) (tr : List (Nat × Value)) : envL ops (fun _ => true) ((i, v) :: tr) env0 = putE (envL ops (fun _ => true) tr env0) o.dst v := by
  simp [envL, dstAt, ho]

/-- the told order runs on to its end, or to operations that act -/
inductive Norm (P : Program) (ops : Array Oper) (ms : List Nat) (n : Nat) (m : List Nat) (K : Env → World → Prop) (env0 : Env) (listed : Array Bool) (a : Act) (w : World) : Prop
  | done (tr pend c) (iv : Inv P ops n m env0 listed a w tr pend c) (h : rdyOf ops.toList c = []) (hk : K (envL ops (fun _ => true) tr env0) w)
  | act (tr pend c f) (iv : Inv P ops n m env0 listed a w tr pend c) (hl : rdyOf ops.toList c ≠ [])
      (hf : ∀ i ∈ rdyOf ops.toList c, ∃ o known, ops[i]? = some o ∧
        ((wantedE ops o (envL ops (fun _ => true) tr env0) = true ∧ actK P (envL ops (fun _ => true) tr env0) o w fun v w' => pendOK ms i w' (drawF P ops ms K f (c ||| (1 <<< i)) known (putE (envL ops (fun _ => true) tr env0) o.dst v) w' (pend.filter fun x => !bit (ms.getD i 0) x.1)) pend) ∨
         (wantedE ops o (envL ops (fun _ => true) tr env0) = false ∧ drawF P ops ms K f (c ||| (1 <<< i)) known (putE (envL ops (fun _ => true) tr env0) o.dst undef) w pend)))

theorem norm {listed : Array Bool} {a : Act} {w : World} : ∀ (f : Nat) (tr : List (Nat × Value)) (pend : List (Nat × (World → Prop))) (c : Nat) (known : List Nat),
    Inv P ops n m env0 listed a w tr pend c → drawF P ops ms K f c known (envL ops (fun _ => true) tr env0) w pend → Norm P ops ms n m K env0 listed a w := by
  intro f
  induction f with
  | zero => intro tr pend c known _ h; simp only [drawF] at h
  | succ f ih =>
    intro tr pend c known iv h
    simp only [drawF] at h
    split at h
    · rename_i i hq
      have hm := List.mem_of_find?_eq_some hq
      obtain ⟨hb, o, ho, he⟩ := mem_rdyOf.1 hm
      rw [ho] at h
      dsimp only at h
      obtain ⟨known', ⟨hw, hA⟩ | ⟨hw, hB⟩⟩ := guardK_sound h
      · split at hA
        · obtain ⟨v, hv, hK⟩ := pure_sound hA
          refine ih ((i, v) :: tr) pend _ known' (iv.tell ho hb he (fun _ h => h) (.inl ⟨hw, .inl hv⟩)) ?_
          rw [envL_cons ho]; exact hK
        · obtain ⟨v, cnd, hc, hv, hK⟩ := read_sound hA
          refine ih ((i, v) :: tr) ((i, cnd) :: pend) _ known' (iv.tell ho hb he (fun _ h => by simp [h]) (.inl ⟨hw, .inr ⟨cnd, by simp, hc, hv⟩⟩)) ?_
          rw [envL_cons ho]; exact hK
        · cases hA
      · refine ih ((i, undef) :: tr) pend _ known' (iv.tell ho hb he (fun _ h => h) (.inr ⟨hw, rfl⟩)) ?_
        rw [envL_cons ho]; exact hB
    · split at h
      · rename_i hr
        exact .done tr pend c iv hr h
      · rename_i l hne
        refine .act tr pend c f iv (fun e => hne (by rw [e])) fun i hi => ?_
        obtain ⟨hb, o, ho, he⟩ := mem_rdyOf.1 hi
        have hi' := andL_mem _ h i hi
        rw [ho] at hi'
        dsimp only at hi'
        obtain ⟨known', hcase⟩ := guardK_sound hi'
        exact ⟨o, known', ho, hcase⟩

theorem pendOK_spec {i : Nat} {w : World} {R : Prop} : ∀ (pend : List (Nat × (World → Prop))), pendOK ms i w R pend → R ∧ ∀ x ∈ pend, bit (ms.getD i 0) x.1 = false → x.2 w := by
  intro pend
  induction pend with
  | nil => intro h; exact ⟨h, by simp⟩
  | cons x pend ih =>
    intro h
    obtain ⟨j, c⟩ := x
    simp only [pendOK] at h
    split at h
    · rename_i hb
      obtain ⟨h1, h2⟩ := ih h
      refine ⟨h1, fun x hx hx2 => ?_⟩
      simp only [List.mem_cons] at hx
      rcases hx with rfl | hx
      · rw [hb] at hx2; cases hx2
      · exact h2 x hx hx2
    · obtain ⟨h0, h⟩ := h
      obtain ⟨h1, h2⟩ := ih h
      refine ⟨h1, fun x hx hx2 => ?_⟩
      simp only [List.mem_cons] at hx
      rcases hx with rfl | hx
      · exact h0
      · exact h2 x hx hx2

theorem getD_set {listed : Array Bool} {i : Nat} (h : i < listed.size) (j : Nat) : (listed.setIfInBounds i true).getD j false = (listed.getD j false || decide (j = i)) := by
  by_cases e : j = i
  · subst e; simp [h]
  · rw [getD_set_ne false (Ne.symm e)]; simp [e]

/-- an operation that was told comes up -/
theorem Inv.come (ch : Chk P ops ms n) {listed : Array Bool} {a : Act} {w : World} {tr : List (Nat × Value)} {pend : List (Nat × (World → Prop))} {c : Nat} (iv : Inv P ops n m env0 listed a w tr pend c)
    {front : List (Nat × Value)} {i : Nat} {v : Value} {tail : List (Nat × Value)} (ht : tr = front ++ (i, v) :: tail) {o : Oper} (ho : ops[i]? = some o) (hl : listed.getD i false = false)
    (hre : ∀ e ∈ bindsOn o, listed.getD e false = true) :
    Inv P ops n m env0 (listed.setIfInBounds i true) (a.put o.dst v) w tr pend c ∧
    Region.wanted o (yielded ops a.tmps) = wantedE ops o (envL ops (fun _ => true) tail env0) ∧ execOp a.eval o = execOp (ev (envL ops (fun _ => true) tail env0)) o := by
  have hisz : i < ops.size := (Array.getElem?_eq_some_iff.1 ho).1
  have hset := fun j => getD_set (listed := listed) (i := i) (by rw [iv.size]; exact hisz) j
  have hnd := iv.nodup
  rw [ht, List.map_append, List.map_cons, List.nodup_append] at hnd
  obtain ⟨_, nd2, nd3⟩ := hnd
  have nd2' := (List.nodup_cons.1 nd2).1
  have nf : ∀ x ∈ front, x.1 ≠ i := fun x hx e => nd3 x.1 (List.mem_map_of_mem hx) i (by simp) e
  have nt : ∀ x ∈ tail, x.1 ≠ i := fun x hx e => by
    have hxm : x.1 ∈ tail.map (·.1) := List.mem_map_of_mem hx
    exact nd2' (e ▸ hxm)
  have hsame : ∀ d, d ∈ o.looksAt ops ∨ o.dst = some d → envL ops (fun i => listed.getD i false) tr env0 d = envL ops (fun _ => true) tail env0 d := by
    intro d hd
    obtain ⟨h1, h2⟩ := looks_same ch iv ht ho hl hre d hd
    rw [ht, envL_skip front _ h1]
    simp only [envL, hl]
    exact envL_all tail h2
  refine ⟨⟨by simp [iv.size], ?_, fun j hj => ?_, ?_, iv.ordC, iv.nodup, iv.bits, fun fr j u tl h hlj => ?_⟩, ?_, ?_⟩
  · have hp : envL ops (fun j => (listed.setIfInBounds i true).getD j false) tr env0 = putE (envL ops (fun i => listed.getD i false) tr env0) o.dst v := by
      funext s
      have gen : ∀ (l rest rest' : List (Nat × Value)), (∀ x ∈ l, x.1 ≠ i) → envL ops (fun j => (listed.setIfInBounds i true).getD j false) rest env0 s = envL ops (fun j => listed.getD j false) rest' env0 s →
          envL ops (fun j => (listed.setIfInBounds i true).getD j false) (l ++ rest) env0 s = envL ops (fun j => listed.getD j false) (l ++ rest') env0 s := by
        intro l rest rest'
        induction l with
        | nil => intro _ h; exact h
        | cons x l ih =>
          intro hx h
          have := ih (fun y hy => hx y (by simp [hy])) h
          obtain ⟨j, u⟩ := x
          simp only [List.cons_append, envL]
          have hj : (listed.setIfInBounds i true).getD j false = listed.getD j false := by rw [hset]; simp [hx (j, u) (by simp)]
          rw [hj]
          cases listed.getD j false with
          | false => exact this
          | true =>
            simp only []
            cases hd : dstAt ops j with
            | none => exact this
            | some d =>
              simp only [putE, upd_eq]
              by_cases e : s = d
              · simp only [e, if_true]
              · simp only [e, if_false]; exact this
      have hii : (listed.setIfInBounds i true).getD i false = true := by rw [hset]; simp
      by_cases hd : o.dst = some s
      · obtain ⟨h1, _⟩ := looks_same ch iv ht ho hl hre s (.inr hd)
        have h1' : ∀ x ∈ front, dstAt ops x.1 = some s → (listed.setIfInBounds i true).getD x.1 false = false := by
          intro x hx hdx
          rw [hset, h1 x hx hdx]
          simp [nf x hx]
        rw [ht, envL_skip front _ h1']
        simp only [envL, hii, dstAt, ho, Option.bind_some, hd, putE, upd_eq]
        simp
      · rw [putE_frame _ _ _ _ hd, ht]
        refine gen front _ _ nf ?_
        simp only [envL, hii, hl]
        rw [putE_frame _ _ _ _ (by simpa [dstAt, ho] using hd)]
        have := gen tail [] [] nt rfl
        simpa using this
    rw [hp]
    exact iv.agree.put o.dst v (ch.dst i o ho)
  · rw [hset] at hj
    simp only [Bool.or_eq_true, decide_eq_true_eq] at hj
    rcases hj with hj | rfl
    · exact iv.sub j hj
    · rw [ht]; simp
  · intro k ok hk hlk e he
    rw [hset] at hlk ⊢
    by_cases ek : k = i
    · subst ek; rw [ho] at hk; cases hk; simp [hre e he]
    · simp only [ek, decide_false, Bool.or_false] at hlk
      simp [iv.closed k ok hk hlk e he]
  · rw [hset] at hlj
    simp only [Bool.or_eq_false_iff] at hlj
    exact iv.ok fr j u tl h hlj.1
  · rw [iv.agree.wanted o]; exact wanted_same fun d hd => hsame d (.inl hd)
  · rw [iv.agree.eval]; exact exec_same (fun cs b => ch.sel i o cs b ho) fun d hd => hsame d (.inl hd)

/-- an operation that acts comes up: it is told and carried out at once -/
theorem Inv.acted (ch : Chk P ops ms n) {listed : Array Bool} {a : Act} {w : World} {tr : List (Nat × Value)} {pend : List (Nat × (World → Prop))} {c : Nat} (iv : Inv P ops n m env0 listed a w tr pend c)
    {i : Nat} {o : Oper} (ho : ops[i]? = some o) (hb : bit c i = false) (he : ∀ e ∈ bindsOn o, bit c e = true) (hre : ∀ e ∈ bindsOn o, listed.getD e false = true) :
    (Region.wanted o (yielded ops a.tmps) = wantedE ops o (envL ops (fun _ => true) tr env0) ∧ execOp a.eval o = execOp (ev (envL ops (fun _ => true) tr env0)) o) ∧
    ∀ v w', (∀ x ∈ pend, bit (ms.getD i 0) x.1 = false → x.2 w') →
      Inv P ops n m env0 (listed.setIfInBounds i true) (a.put o.dst v) w' ((i, v) :: tr) (pend.filter fun x => !bit (ms.getD i 0) x.1) (c ||| (1 <<< i)) := by
  have hni : i ∉ tr.map (·.1) := fun h => by rw [(iv.bits i).2 h] at hb; cases hb
  have hli : listed.getD i false = false := by
    cases h : listed.getD i false with
    | false => rfl
    | true => exact absurd (iv.sub i h) hni
  have hisz : i < ops.size := (Array.getElem?_eq_some_iff.1 ho).1
  have hset := fun j => getD_set (listed := listed) (i := i) (by rw [iv.size]; exact hisz) j
  have nt : ∀ x ∈ tr, x.1 ≠ i := fun x hx e => hni (e ▸ (List.mem_map_of_mem hx : x.1 ∈ tr.map (·.1)))
  have tailC : ∀ k ok, ops[k]? = some ok → k ∈ tr.map (·.1) → ∀ e ∈ bindsOn ok, e ∈ tr.map (·.1) := by
    intro k ok hk hm e he
    obtain ⟨⟨k', u⟩, hm', hk'⟩ := List.mem_map.1 hm
    dsimp only at hk'
    subst hk'
    obtain ⟨t1, t2, e2⟩ := List.append_of_mem hm'
    have := iv.ordC t1 k' u t2 e2 ok hk e he
    rw [e2, List.map_append, List.map_cons]
    exact List.mem_append_right _ (List.mem_cons_of_mem _ this)
  have hlook : ∀ d, d ∈ o.looksAt ops ∨ o.dst = some d → ∀ x ∈ tr, dstAt ops x.1 = some d → listed.getD x.1 false = true := by
    intro d hd x hx hdx
    have : ∃ ox, ops[x.1]? = some ox := by
      cases h : ops[x.1]? with
      | none => simp [dstAt, h] at hdx
      | some ox => exact ⟨ox, rfl⟩
    obtain ⟨ox, hox⟩ := this
    rcases ch.apart i x.1 o ox ho hox (Ne.symm (nt x hx)) with h | h | h
    · have := apart_looks hox h hdx
      rcases hd with hd | hd
      · exact absurd hd this.1
      · exact absurd hd this.2
    · exact h.of_edges (c := fun k => listed.getD k false = true) iv.closed ho hre
    · have hxm : x.1 ∈ tr.map (·.1) := List.mem_map_of_mem hx
      exact absurd (h.of_closed (c := fun k => k ∈ tr.map (·.1)) tailC hxm) hni
  have hsame : ∀ d, d ∈ o.looksAt ops ∨ o.dst = some d → envL ops (fun i => listed.getD i false) tr env0 d = envL ops (fun _ => true) tr env0 d := fun d hd => envL_all tr (hlook d hd)
  refine ⟨⟨?_, ?_⟩, fun v w' hpend => ?_⟩
  · rw [iv.agree.wanted o]; exact wanted_same fun d hd => hsame d (.inl hd)
  · rw [iv.agree.eval]; exact exec_same (fun cs b => ch.sel i o cs b ho) fun d hd => hsame d (.inl hd)
  · have hii : (listed.setIfInBounds i true).getD i false = true := by rw [hset]; simp
    refine ⟨by simp [iv.size], ?_, fun j hj => ?_, ?_, ?_, ?_, fun j => ?_, ?_⟩
    · have hp : envL ops (fun j => (listed.setIfInBounds i true).getD j false) ((i, v) :: tr) env0 = putE (envL ops (fun i => listed.getD i false) tr env0) o.dst v := by
        have : ∀ l : List (Nat × Value), (∀ x ∈ l, x.1 ≠ i) → envL ops (fun j => (listed.setIfInBounds i true).getD j false) l env0 = envL ops (fun i => listed.getD i false) l env0 := by
          intro l
          induction l with
          | nil => intro _; rfl
          | cons x l ih =>
            intro hx
            obtain ⟨j, u⟩ := x
            have h1 := ih fun y hy => hx y (by simp [hy])
            have hj : (listed.setIfInBounds i true).getD j false = listed.getD j false := by rw [hset]; simp [hx (j, u) (by simp)]
            simp only [envL, hj, h1]
        simp only [envL, hii, dstAt, ho, Option.bind_some]
        rw [this tr nt]
      rw [hp]
      exact iv.agree.put o.dst v (ch.dst i o ho)
    · rw [hset] at hj
      simp only [Bool.or_eq_true, decide_eq_true_eq] at hj
      rcases hj with hj | rfl
      · simp [iv.sub j hj]
      · simp
    · intro k ok hk hlk e he
      rw [hset] at hlk ⊢
      by_cases ek : k = i
      · subst ek; rw [ho] at hk; cases hk; simp [hre e he]
      · simp only [ek, decide_false, Bool.or_false] at hlk
        simp [iv.closed k ok hk hlk e he]
    · intro front j u tail ht' o' ho' e he'
      cases front with
      | nil =>
        simp only [List.nil_append, List.cons.injEq, Prod.mk.injEq] at ht'
        obtain ⟨⟨rfl, rfl⟩, rfl⟩ := ht'
        rw [ho] at ho'; cases ho'
        exact (iv.bits e).1 (he e he')
      | cons x front =>
        simp only [List.cons_append, List.cons.injEq] at ht'
        exact iv.ordC front j u tail ht'.2 o' ho' e he'
    · simp only [List.map_cons, List.nodup_cons]; exact ⟨hni, iv.nodup⟩
    · rw [bit_set]
      simp only [Bool.or_eq_true, decide_eq_true_eq, List.map_cons, List.mem_cons, iv.bits j]
      constructor
      · rintro (h | h)
        · exact .inr h
        · exact .inl h.symm
      · rintro (h | h)
        · exact .inr h.symm
        · exact .inl h
    · intro front j u tail ht' hlj
      rw [hset] at hlj
      simp only [Bool.or_eq_false_iff, decide_eq_false_iff_not] at hlj
      cases front with
      | nil =>
        simp only [List.nil_append, List.cons.injEq, Prod.mk.injEq] at ht'
        exact absurd ht'.1.1.symm hlj.2
      | cons x front =>
        simp only [List.cons_append, List.cons.injEq] at ht'
        obtain ⟨o', ho', h⟩ := iv.ok front j u tail ht'.2 hlj.1
        refine ⟨o', ho', h.imp (fun ⟨h1, h2⟩ => ⟨h1, h2.imp id fun ⟨cnd, h3, _, h4⟩ => ?_⟩) id⟩
        have hbit : bit (ms.getD i 0) j = false := by
          cases hbb : bit (ms.getD i 0) j with
          | false => rfl
          | true =>
            have := (ch.bef i j hbb).of_edges (c := fun k => listed.getD k false = true) iv.closed ho hre
            rw [hlj.1] at this; cases this
        exact ⟨cnd, List.mem_filter.2 ⟨h3, by show (!bit (ms.getD i 0) j) = true; rw [hbit]; rfl⟩, hpend (j, cnd) h3 hbit, h4⟩

/-- an operation that acts comes up: the world stays -/
theorem Inv.acted' (ch : Chk P ops ms n) {listed : Array Bool} {a : Act} {w : World} {tr : List (Nat × Value)} {pend : List (Nat × (World → Prop))} {c : Nat} (iv : Inv P ops n m env0 listed a w tr pend c)
    {i : Nat} {o : Oper} (ho : ops[i]? = some o) (hb : bit c i = false) (he : ∀ e ∈ bindsOn o, bit c e = true) (hre : ∀ e ∈ bindsOn o, listed.getD e false = true) :
    (Region.wanted o (yielded ops a.tmps) = wantedE ops o (envL ops (fun _ => true) tr env0) ∧ execOp a.eval o = execOp (ev (envL ops (fun _ => true) tr env0)) o) ∧
    ∀ v, Inv P ops n m env0 (listed.setIfInBounds i true) (a.put o.dst v) w ((i, v) :: tr) pend (c ||| (1 <<< i)) := by
  have hni : i ∉ tr.map (·.1) := fun h => by rw [(iv.bits i).2 h] at hb; cases hb
  have hli : listed.getD i false = false := by
    cases h : listed.getD i false with
    | false => rfl
    | true => exact absurd (iv.sub i h) hni
  have hisz : i < ops.size := (Array.getElem?_eq_some_iff.1 ho).1
  have hset := fun j => getD_set (listed := listed) (i := i) (by rw [iv.size]; exact hisz) j
  have nt : ∀ x ∈ tr, x.1 ≠ i := fun x hx e => hni (e ▸ (List.mem_map_of_mem hx : x.1 ∈ tr.map (·.1)))
  have tailC : ∀ k ok, ops[k]? = some ok → k ∈ tr.map (·.1) → ∀ e ∈ bindsOn ok, e ∈ tr.map (·.1) := by
    intro k ok hk hm e he
    obtain ⟨⟨k', u⟩, hm', hk'⟩ := List.mem_map.1 hm
    dsimp only at hk'
    subst hk'
    obtain ⟨t1, t2, e2⟩ := List.append_of_mem hm'
    have := iv.ordC t1 k' u t2 e2 ok hk e he
    rw [e2, List.map_append, List.map_cons]
    exact List.mem_append_right _ (List.mem_cons_of_mem _ this)
  have hlook : ∀ d, d ∈ o.looksAt ops ∨ o.dst = some d → ∀ x ∈ tr, dstAt ops x.1 = some d → listed.getD x.1 false = true := by
    intro d hd x hx hdx
    have : ∃ ox, ops[x.1]? = some ox := by
      cases h : ops[x.1]? with
      | none => simp [dstAt, h] at hdx
      | some ox => exact ⟨ox, rfl⟩
    obtain ⟨ox, hox⟩ := this
    rcases ch.apart i x.1 o ox ho hox (Ne.symm (nt x hx)) with h | h | h
    · have := apart_looks hox h hdx
      rcases hd with hd | hd
      · exact absurd hd this.1
      · exact absurd hd this.2
    · exact h.of_edges (c := fun k => listed.getD k false = true) iv.closed ho hre
    · have hxm : x.1 ∈ tr.map (·.1) := List.mem_map_of_mem hx
      exact absurd (h.of_closed (c := fun k => k ∈ tr.map (·.1)) tailC hxm) hni
  have hsame : ∀ d, d ∈ o.looksAt ops ∨ o.dst = some d → envL ops (fun i => listed.getD i false) tr env0 d = envL ops (fun _ => true) tr env0 d := fun d hd => envL_all tr (hlook d hd)
  refine ⟨⟨?_, ?_⟩, fun v => ?_⟩
  · rw [iv.agree.wanted o]; exact wanted_same fun d hd => hsame d (.inl hd)
  · rw [iv.agree.eval]; exact exec_same (fun cs b => ch.sel i o cs b ho) fun d hd => hsame d (.inl hd)
  · have hii : (listed.setIfInBounds i true).getD i false = true := by rw [hset]; simp
    refine ⟨by simp [iv.size], ?_, fun j hj => ?_, ?_, ?_, ?_, fun j => ?_, ?_⟩
    · have hp : envL ops (fun j => (listed.setIfInBounds i true).getD j false) ((i, v) :: tr) env0 = putE (envL ops (fun i => listed.getD i false) tr env0) o.dst v := by
        have : ∀ l : List (Nat × Value), (∀ x ∈ l, x.1 ≠ i) → envL ops (fun j => (listed.setIfInBounds i true).getD j false) l env0 = envL ops (fun i => listed.getD i false) l env0 := by
          intro l
          induction l with
          | nil => intro _; rfl
          | cons x l ih =>
            intro hx
            obtain ⟨j, u⟩ := x
            have h1 := ih fun y hy => hx y (by simp [hy])
            have hj : (listed.setIfInBounds i true).getD j false = listed.getD j false := by rw [hset]; simp [hx (j, u) (by simp)]
            simp only [envL, hj, h1]
        simp only [envL, hii, dstAt, ho, Option.bind_some]
        rw [this tr nt]
      rw [hp]
      exact iv.agree.put o.dst v (ch.dst i o ho)
    · rw [hset] at hj
      simp only [Bool.or_eq_true, decide_eq_true_eq] at hj
      rcases hj with hj | rfl
      · simp [iv.sub j hj]
      · simp
    · intro k ok hk hlk e he
      rw [hset] at hlk ⊢
      by_cases ek : k = i
      · subst ek; rw [ho] at hk; cases hk; simp [hre e he]
      · simp only [ek, decide_false, Bool.or_false] at hlk
        simp [iv.closed k ok hk hlk e he]
    · intro front j u tail ht' o' ho' e he'
      cases front with
      | nil =>
        simp only [List.nil_append, List.cons.injEq, Prod.mk.injEq] at ht'
        obtain ⟨⟨rfl, rfl⟩, rfl⟩ := ht'
        rw [ho] at ho'; cases ho'
        exact (iv.bits e).1 (he e he')
      | cons x front =>
        simp only [List.cons_append, List.cons.injEq] at ht'
        exact iv.ordC front j u tail ht'.2 o' ho' e he'
    · simp only [List.map_cons, List.nodup_cons]; exact ⟨hni, iv.nodup⟩
    · rw [bit_set]
      simp only [Bool.or_eq_true, decide_eq_true_eq, List.map_cons, List.mem_cons, iv.bits j]
      constructor
      · rintro (h | h)
        · exact .inr h
        · exact .inl h.symm
      · rintro (h | h)
        · exact .inr h.symm
        · exact .inl h
    · intro front j u tail ht' hlj
      rw [hset] at hlj
      simp only [Bool.or_eq_false_iff, decide_eq_false_iff_not] at hlj
      cases front with
      | nil =>
        simp only [List.nil_append, List.cons.injEq, Prod.mk.injEq] at ht'
        exact absurd ht'.1.1.symm hlj.2
      | cons x front =>
        simp only [List.cons_append, List.cons.injEq] at ht'
        obtain ⟨o', ho', h⟩ := iv.ok front j u tail ht'.2 hlj.1
        exact ⟨o', ho', h⟩

/-- an operation that its guard shuts out comes up -/
theorem Inv.keep (ch : Chk P ops ms n) {listed : Array Bool} {a : Act} {w : World} {tr : List (Nat × Value)} {pend : List (Nat × (World → Prop))} {c : Nat} (iv : Inv P ops n m env0 listed a w tr pend c)
    {i : Nat} {o : Oper} (ho : ops[i]? = some o) (hb : bit c i = false) (he : ∀ e ∈ bindsOn o, bit c e = true) (hre : ∀ e ∈ bindsOn o, listed.getD e false = true) :
    Inv P ops n m env0 (listed.setIfInBounds i true) (a.put o.dst undef) w ((i, undef) :: tr) pend (c ||| (1 <<< i)) := by
  have ch' : Chk P ops [] n := ⟨ch.sel, ch.back, fun i j h => by simp [bit] at h, ch.apart, ch.dst⟩
  obtain ⟨_, hnext⟩ := iv.acted' ch' ho hb he hre
  exact hnext undef

theorem draw_main (ch : Chk P ops ms n) (hQ : ∀ env' a' w', Agree n m env' a' → (∀ s, s ∉ ops.toList.filterMap (·.dst) → env' s = env0 s) → K env' w' → Q .normal a' w') :
    ∀ (fuel : Nat) (listed : Array Bool) (a : Act) (w : World), ((List.range ops.size).filter fun i => !listed.getD i false).length ≤ fuel → Norm P ops ms n m K env0 listed a w →
    wpAnyIn (FW ρ) 0 P .any ops Q fuel listed a w := by
  have hsize : ∀ (listed : Array Bool) (a : Act) (w : World), Norm P ops ms n m K env0 listed a w → listed.size = ops.size := by
    intro listed a w st
    cases st with
    | done tr pend c iv => exact iv.size
    | act tr pend c f iv => exact iv.size
  have hdone : ∀ (listed : Array Bool) (a : Act) (w : World), Norm P ops ms n m K env0 listed a w → (∀ i, i < ops.size → listed.getD i false = true) → Q .normal a w := by
    intro listed a w st hall
    cases st with
    | done tr pend c iv h hk =>
      have e : envL ops (fun i => listed.getD i false) tr env0 = envL ops (fun _ => true) tr env0 := by
        funext d
        refine envL_all tr fun x _ hd => ?_
        refine hall x.1 ?_
        rcases Nat.lt_or_ge x.1 ops.size with h | h
        · exact h
        · simp [dstAt, Array.getElem?_eq_none h] at hd
      have ag := iv.agree
      rw [e] at ag
      refine hQ _ _ _ ag (fun s hs => envL_frame tr fun x _ hd => hs ?_) hk
      simp only [dstAt] at hd
      cases ho : ops[x.1]? with
      | none => simp [ho] at hd
      | some o => exact List.mem_filterMap.2 ⟨o, by simpa using Array.mem_of_getElem? ho, by simpa [ho] using hd⟩
    | act tr pend c f iv hl =>
      refine absurd ?_ hl
      cases hr : rdyOf ops.toList c with
      | nil => rfl
      | cons i r =>
        obtain ⟨hb, o, ho, _⟩ := mem_rdyOf.1 (show i ∈ rdyOf ops.toList c by rw [hr]; simp)
        have := (iv.bits i).2 (iv.sub i (hall i (Array.getElem?_eq_some_iff.1 ho).1))
        rw [hb] at this; cases this
  have hready : ∀ (listed : Array Bool), listed.size = ops.size → Region.ready .any ops listed = [] → ∀ i, i < ops.size → listed.getD i false = true := by
    intro listed hs hr i
    induction i using Nat.strongRecOn with
    | _ i ih =>
      intro hi
      cases hl : listed.getD i false with
      | true => rfl
      | false =>
        obtain ⟨o, ho⟩ : ∃ o, ops[i]? = some o := ⟨ops[i], by simp [hi]⟩
        have : i ∈ Region.ready .any ops listed := (ready_iff hs).2 ⟨hl, o, ho, fun e he => ih e (ch.back i o ho e he) (Nat.lt_trans (ch.back i o ho e he) hi)⟩
        rw [hr] at this; cases this
  intro fuel
  induction fuel with
  | zero =>
    intro listed a w hf st
    have hall : ∀ i, i < ops.size → listed.getD i false = true := by
      intro i hi
      have h0 : (List.range ops.size).filter (fun i => !listed.getD i false) = [] := List.eq_nil_of_length_eq_zero (by omega)
      cases hl : listed.getD i false with
      | true => rfl
      | false =>
        have : i ∈ (List.range ops.size).filter (fun i => !listed.getD i false) := List.mem_filter.2 ⟨List.mem_range.2 hi, by simp [hl]⟩
        rw [h0] at this; cases this
    have hs := hsize _ _ _ st
    refine ⟨?_, hdone listed a w st hall⟩
    cases hr : Region.ready .any ops listed with
    | nil => rfl
    | cons i r =>
      have : i ∈ Region.ready .any ops listed := by rw [hr]; simp
      obtain ⟨h0, o, ho, _⟩ := (ready_iff hs).1 this
      rw [hall i (Array.getElem?_eq_some_iff.1 ho).1] at h0; cases h0
  | succ fuel ih =>
    intro listed a w hf st
    have hs := hsize _ _ _ st
    refine ⟨fun hr => hdone listed a w st (hready listed hs hr), fun i hi => ?_⟩
    obtain ⟨hl, o, ho, hre⟩ := (ready_iff hs).1 hi
    have hisz : i < ops.size := (Array.getElem?_eq_some_iff.1 ho).1
    have hset := fun j => getD_set (listed := listed) (i := i) (by rw [hs]; exact hisz) j
    have hcount : ((List.range ops.size).filter fun j => !(listed.setIfInBounds i true).getD j false).length ≤ fuel := by
      have hlt : ((List.range ops.size).filter fun j => !(listed.setIfInBounds i true).getD j false).length < ((List.range ops.size).filter fun i => !listed.getD i false).length := by
        have e : ((List.range ops.size).filter fun j => !(listed.setIfInBounds i true).getD j false) = ((List.range ops.size).filter fun i => !listed.getD i false).filter (fun j => decide (j ≠ i)) := by
          rw [List.filter_filter]
          apply List.filter_congr
          intro j _
          rw [hset j]
          by_cases e : j = i <;> simp [e]
        rw [e]
        exact List.length_filter_lt_length_iff_exists.2 ⟨i, List.mem_filter.2 ⟨List.mem_range.2 hisz, by simp [hl]⟩, by simp⟩
      omega
    have told : ∀ (tr : List (Nat × Value)) (pend : List (Nat × (World → Prop))) (c : Nat), Inv P ops n m env0 listed a w tr pend c → i ∈ tr.map (·.1) →
        (∀ (l' : Array Bool) (a' : Act), Inv P ops n m env0 l' a' w tr pend c → Norm P ops ms n m K env0 l' a' w) →
        wpOpIn (FW ρ) 0 P ops Q i (wpAnyIn (FW ρ) 0 P .any ops Q fuel (listed.setIfInBounds i true)) a w := by
      intro tr pend c iv hmem hN
      obtain ⟨⟨i', v⟩, hm, e⟩ := List.mem_map.1 hmem
      dsimp only at e; subst e
      obtain ⟨front, tail, ht⟩ := List.append_of_mem hm
      obtain ⟨o', ho', told⟩ := iv.ok front i' v tail ht hl
      rw [ho] at ho'; cases ho'
      obtain ⟨iv', hwant, hexec⟩ := iv.come ch ht ho hl hre
      have hrec := ih _ _ _ hcount (hN _ _ iv')
      unfold wpOpIn
      simp only [ho]
      rw [hwant]
      rcases told with ⟨hw, hrun⟩ | ⟨hw, rfl⟩
      · simp only [hw, if_true]
        refine ⟨fun _ _ => trivial, ?_⟩
        rcases hrun with hrun | ⟨cnd, _, hc, hrun⟩
        · rw [Oper.semAt_eq _ _ _ (nd_of_value (hrun w)), hexec, hrun w]; exact hrec
        · rw [Oper.semAt_eq _ _ _ (nd_of_value (hrun w hc)), hexec, hrun w hc]; exact hrec
      · simp only [hw, Bool.false_eq_true, if_false]; exact ⟨fun _ _ => trivial, hrec⟩
    have rdy : ∀ (tr : List (Nat × Value)) (pend : List (Nat × (World → Prop))) (c : Nat), Inv P ops n m env0 listed a w tr pend c → i ∉ tr.map (·.1) → i ∈ rdyOf ops.toList c := by
      intro tr pend c iv hmem
      refine mem_rdyOf.2 ⟨?_, o, ho, fun e he => (iv.bits e).2 (iv.sub e (hre e he))⟩
      cases hbb : bit c i with
      | false => rfl
      | true => exact absurd ((iv.bits i).1 hbb) hmem
    cases st with
    | done tr pend c iv h hk =>
      by_cases hmem : i ∈ tr.map (·.1)
      · exact told tr pend c iv hmem fun l' a' iv' => .done tr pend c iv' h hk
      · have := rdy tr pend c iv hmem
        rw [h] at this; cases this
    | act tr pend c f iv hl hf =>
      by_cases hmem : i ∈ tr.map (·.1)
      · exact told tr pend c iv hmem fun l' a' iv' => .act tr pend c f iv' hl hf
      · have hi' := rdy tr pend c iv hmem
        obtain ⟨hb, o', ho', he⟩ := mem_rdyOf.1 hi'
        rw [ho] at ho'; cases ho'
        obtain ⟨o', known, ho', hcase⟩ := hf i hi'
        rw [ho] at ho'; cases ho'
        obtain ⟨⟨hwant, hexec⟩, hnext⟩ := iv.acted ch ho hb he hre
        unfold wpOpIn
        simp only [ho]
        rw [hwant]
        rcases hcase with ⟨hw, hact⟩ | ⟨hw, hrest⟩
        · simp only [hw, if_true]
          refine Oper.wpIn_mono (fun a' w' ⟨v, ha', hK⟩ => ?_) (act_sound hact ρ a Q hexec)
          subst ha'
          obtain ⟨hK, hp⟩ := pendOK_spec pend hK
          refine ih _ _ _ hcount (norm f _ _ _ known (hnext v w' hp) ?_)
          rw [envL_cons ho]; exact hK
        · simp only [hw, Bool.false_eq_true, if_false]
          have hkeep := iv.keep ch ho hb he hre
          refine ⟨fun _ _ => trivial, ih _ _ _ hcount (norm f _ _ _ known hkeep ?_)⟩
          rw [envL_cons ho]; exact hrest

theorem drawF_sound (ch : Chk P ops ms n) (hQ : ∀ env' a' w', Agree n m env' a' → (∀ s, s ∉ ops.toList.filterMap (·.dst) → env' s = env0 s) → K env' w' → Q .normal a' w')
    {f : Nat} {a : Act} {w : World} (ha : Agree n m env0 a) (h : drawF P ops ms K f 0 [] env0 w []) :
    wpAnyIn (FW ρ) 0 P .any ops Q ops.size (Array.replicate ops.size false) a w := by
  refine draw_main ch hQ _ _ a w ?_ (norm f [] [] 0 [] ⟨by simp, ?_, ?_, ?_, ?_, by simp, by simp [bit], ?_⟩ h)
  · exact Nat.le_trans (List.length_filter_le _ _) (by simp)
  · exact ha
  · intro i hi
    rw [Array.getD_eq_getD_getElem?] at hi
    by_cases h : i < ops.size
    · simp [h] at hi
    · simp [h] at hi
  · intro i o _ hi
    rw [Array.getD_eq_getD_getElem?] at hi
    by_cases h : i < ops.size
    · simp [h] at hi
    · simp [h] at hi
  · intro front i v tail h; cases front <;> simp at h
  · intro front i v tail h; cases front <;> simp at h

end Go.Den
