/- Texts that belong together, joined: DenT. No conditions. -/
import Derived.Test.YtcmncfglcjcmhaaGreatDenS
/- The soundness of the denotation's operations that read or act. -/
set_option linter.unusedSectionVars false
set_option linter.unusedVariables false
set_option linter.unusedSimpArgs false
namespace Go.Den

variable [EntTys]
variable {P : Program} {env : Env} {w : World}

theorem zrow_eq (zs : Array Value) (n : Nat) : (Array.range n).map (fun i => zs[i % zs.size]!) = zrow zs n := by
  apply Array.ext'; simp [zrow]
theorem map_eq (xs : Array Operand) : (xs.toList.map (ev env)).toArray = xs.map (ev env) := by apply Array.ext'; simp

theorem read_sound {o : Oper} {K : Value → (World → Prop) → Prop} (h : readK P env o w K) :
    ∃ v c, c w ∧ (∀ w', c w' → (execOp (ev env) o).run P w' = .ok (.value v) w') ∧ K v c := by
  obtain ⟨dst, op, type, pos, after, guard⟩ := o
  unfold readK at h
  dsimp only at h
  split at h
  · rename_i t a
    split at h
    · rename_i p ho e
      obtain ⟨x, hx, hK⟩ := h
      exact ⟨_, _, hx, fun w' hw' => by simp [execOp, e, Instr.loadAt, Instr.sureAddr, run_loadVar_at ho hw'], hK⟩
    · cases h
  · rename_i t m k ok
    split at h
    · obtain ⟨x, b, hx, hK⟩ := h
      exact ⟨_, _, hx, fun w' hw' => by unfold Lk2 at hw'; simp [execOp, hw'], hK⟩
    · obtain ⟨x, hx, hK⟩ := h
      exact ⟨_, _, hx, fun w' hw' => by unfold Lk1 at hw'; simp [execOp, hw'], hK⟩
    · cases h
  · rename_i args argTypes
    split at h
    · rename_i t x ht hx
      split at h
      · rename_i k e m hu e1
        obtain ⟨n, hn, hK⟩ := h
        refine ⟨_, _, hn, fun w' hw' => ?_, hK⟩
        unfold mapLen at hw'
        cases m with
        | none => simp only at hw'; subst hw'; simp [execOp, resolve, invoke, builtin, Builtin.len_, ht, hx, run_underlying' hu, e1, goInt]
        | some r =>
          obtain ⟨es, c, hr, rfl⟩ := hw'
          have hg : (getObj r).run P w' = .ok (.map es c) w' := by simp [getObj, Sem.run, hr]
          simp [execOp, resolve, invoke, builtin, Builtin.len_, ht, hx, run_underlying' hu, e1, goInt, hg]
      · cases h
    · cases h
  · cases h

/-- what is asked of an operation that acts -/
def Acts (P : Program) (env : Env) (o : Oper) (w : World) (K : Value → World → Prop) : Prop :=
  ∀ (ρ : Option Nat) (a : Act) (Q : Exit → Act → World → Prop), execOp a.eval o = execOp (ev env) o → o.wpIn (FW ρ) 0 P a w (fun a' w' => ∃ v, a' = a.put o.dst v ∧ K v w') Q

theorem acts_value {o : Oper} (hn : ∀ c, o.op ≠ .defer c) {K : Value → World → Prop} {v : Value} {w' : World} (h : (execOp (ev env) o).run P w = .ok (.value v) w') (hK : K v w') : Acts P env o w K := by
  intro ρ a Q ha
  refine ⟨fun _ _ => trivial, ?_⟩
  rw [Oper.semAt_eq _ _ _ hn, ha, h]
  exact ⟨v, rfl, hK⟩
theorem acts_skip {o : Oper} (hn : ∀ c, o.op ≠ .defer c) {K : Value → World → Prop} {w' : World} (h : (execOp (ev env) o).run P w = .ok .skip w') (hK : K undef w') : Acts P env o w K := by
  intro ρ a Q ha
  refine ⟨fun _ _ => trivial, ?_⟩
  rw [Oper.semAt_eq _ _ _ hn, ha, h]
  exact ⟨undef, rfl, hK⟩
theorem acts_enter {o : Oper} (hn : ∀ c, o.op ≠ .defer c) {K : Value → World → Prop} {f : FuncId} {args : Array Value} (h : (execOp (ev env) o).run P w = .ok (.enter f args) w)
    (hK : Calls P f args w fun e w' => ∃ v, e = .returned v ∧ K v w') : Acts P env o w K := by
  intro ρ a Q ha
  refine ⟨fun _ _ => trivial, ?_⟩
  rw [Oper.semAt_eq _ _ _ hn, ha, h, Oper.uponIn_enter]
  refine ⟨(fun h => by cases h), ?_⟩
  have h2 : CallsIn Fence.wide (0 - 1) P f args w _ := callsIn_wide.2 hK
  exact CallsIn.mono (F := FW ρ) h2 fun e w' ⟨v, he, hk⟩ => by subst he; exact ⟨v, rfl, hk⟩
theorem acts_round {o : Oper} (hn : ∀ c, o.op ≠ .defer c) {K : Value → World → Prop} {l : Nat} {f : FuncId} {tmps : Array Value} {assign body : Code} (h : (execOp (ev env) o).run P w = .ok (.round l f tmps assign body) w)
    (hK : RoundIn Fence.wide 0 P l f tmps assign body w fun e w' => ∃ v, e = .returned v ∧ K v w') : Acts P env o w K := by
  intro ρ a Q ha
  refine ⟨fun _ _ => trivial, ?_⟩
  rw [Oper.semAt_eq _ _ _ hn, ha, h, Oper.uponIn_round]
  refine ⟨(fun h => by cases h), ?_⟩
  have h2 : RoundIn Fence.wide (0 - 1) P l f tmps assign body w _ := hK
  exact RoundIn.mono (F := FW ρ) h2 fun e w' ⟨v, he, hk⟩ => by subst he; exact ⟨v, rfl, hk⟩

theorem sliceElem_spec {t e : TypeId} (h : sliceElem P t = some e) : P.underlying t = some (.slice e) := by
  unfold sliceElem at h
  split at h
  · cases h; assumption
  · cases h

theorem run_newRow (e : TypeId) (cs : Array Value) : (newRow e cs).run P w = .ok ⟨w.heap.size, 0, none⟩ (w.alloc (.cells cs e)) := by
  simp [newRow]

theorem run_storeVar {t : TypeId} {a : Addr} {v : Value} {n : Nat} (hn : szOf P t = some n) (hs : v.cells.size = n) (hw : Wr w a v.cells.toList.length) (ho : v.cells.toList.all one = true) :
    (storeVar t a v).run P w = .ok () (setCells w a 0 v.cells.toList) := by
  subst hs
  simp [storeVar, run_sizeOf' hn, run_storeCells_wr hw ho]

theorem run_firstCells {x : Value} {n size : Nat} {cs : List Value} (h : src w x (n * size) cs) (hs : ∀ s, x = .string s → n = s.size) : (Builtin.firstCells size n x).run P w = .ok cs.toArray w := by
  unfold src at h
  split at h
  · exact run_loadCells_at h.2 h.1
  · subst h; simp [Builtin.firstCells]
  · rename_i s
    subst h
    have e := hs s rfl
    subst e
    have : s.extract 0 s.size = s := by simp
    simp [Builtin.firstCells, this]
    apply Array.ext'
    simp
  · cases h

theorem run_append {argTypes args : Array _} {ty : TypeId} {t t2 e : TypeId} {d2 : TypeDesc} {i : TypeInfo} {z : Value} {base : Option Addr} {len cap : Nat} {x : Value} {n : Nat} {K : Sl → World → Prop}
    (h0 : argTypes[0]? = some t) (h1 : argTypes[1]? = some t2) (a0 : args[0]? = some (.slice base len cap)) (a1 : args[1]? = some x)
    (hu : P.underlying t = some (.slice e)) (h2 : P.underlying t2 = some d2) (hd2 : isIntP P t2 = none) (hi : P.info? e = some i) (hz : i.zero = some z)
    (hl : (∃ b c, x = .slice b n c) ∨ ∃ s, x = .string s ∧ n = s.size)
    (h : appK e i.size i.bytes z.cells base len cap x n w K) : ∃ (v : Sl) (w' : World), (Builtin.append_ argTypes ty args).run P w = .ok (.slice v.a v.len v.cap) w' ∧ K v w' := by
  obtain ⟨cs, hsrc, hone, hfit, hgrow⟩ := h
  have hint : (match d2 with | .int _ => true | _ => false) = false := by
    unfold isIntP at hd2
    rw [h2] at hd2
    cases d2 <;> simp_all
  have hlen : ∀ w, (Builtin.lenOf x).run P w = .ok n w := by
    intro w
    rcases hl with ⟨b, c, rfl⟩ | ⟨s, rfl, rfl⟩ <;> simp [Builtin.lenOf]
  have hstr : ∀ s, x = .string s → n = s.size := by
    intro s hs
    rcases hl with ⟨b, c, rfl⟩ | ⟨s', rfl, rfl⟩
    · cases hs
    · cases hs; rfl
  have hnew : ∀ w, src w x (n * i.size) cs → (Builtin.firstCells i.size n x).run P w = .ok cs.toArray w := fun w h => run_firstCells h hstr
  by_cases hc : len + n ≤ cap
  · rcases hfit hc with ⟨p, rfl, hw, hK⟩ | ⟨rfl, hK⟩
    · refine ⟨_, _, ?_, hK⟩
      unfold Builtin.append_
      simp only [h0, h1, a0, a1]
      simp [run_underlying' hu, run_sizeOf hi, run_underlying' h2, hlen, hc, hnew w hsrc, run_storeCells_wr hw hone]
      cases d2 <;> simp_all [run_storeCells_wr]
    · refine ⟨_, _, ?_, hK⟩
      unfold Builtin.append_
      simp only [h0, h1, a0, a1]
      simp [run_underlying' hu, run_sizeOf hi, run_underlying' h2, hlen, hc, hnew w hsrc]
      cases d2 <;> simp_all
  · obtain ⟨hmax, hroom, hby, os, hos, hK⟩ := hgrow (by omega)
    refine ⟨_, _, ?_, hK ((Question.appendCap (len + n) cap e).cut (w.tape w.drawn (.appendCap (len + n) cap e))) (by simp [Question.cut])⟩
    have hold : ∀ w, src w (.slice base len cap) (len * i.size) os → (Builtin.firstCells i.size len (.slice base len cap)).run P w = .ok os.toArray w := fun w h => run_firstCells h (fun s hs => by cases hs)
    have e1 : src w.drew x (n * i.size) cs := hsrc
    have e2 : src w.drew (.slice base len cap) (len * i.size) os := hos
    have c1 : ¬ (((len + n : Nat) : Int) > IntKind.i64.max ∧ (False ∨ i.bytes = 0)) := by
      have e : IntKind.i64.max = 9223372036854775807 := by decide
      rw [e]; omega
    have hn := hnew w.drew e1
    have ho := hold w.drew e2
    have hz' : (zeroValue e).run P w.drew = .ok z w.drew := run_zeroValue hi hz
    have c2 : ¬ (Builtin.nextslicecap (len + n) cap * i.bytes > 2 ^ 48) := by omega
    unfold Builtin.append_
    simp only [h0, h1, a0, a1]
    simp only [Sem.run_bind, run_underlying' hu, run_sizeOf hi, run_underlying' h2, Result.andThen_ok, Sem.run_pure]
    cases d2 <;> first | (cases hint; done) | skip
    all_goals
      simp only [Sem.run_bind, Sem.run_ite, Result.andThen_ok, Sem.run_pure, hlen, if_neg hc, run_typeInfo hi, Bool.false_eq_true, if_false]
      rw [if_neg c1, if_neg c2]
      simp only [run_choose, Question.forced, Bool.false_eq_true, if_false, Result.andThen_ok, run_askRoom, World.drew_eq, hn, ho, hz', run_newRow, Bool.not_false, if_true, Builtin.zeroCells, zrow_eq, List.append_toArray, World.size_drew]

theorem range_zero_map {β : Type} (f : Nat → β) : (Array.range 0).map f = #[] := by simp

theorem act_sound {o : Oper} {K : Value → World → Prop} (h : actK P env o w K) : Acts P env o w K := by
  obtain ⟨dst, op, type, pos, after, guard⟩ := o
  have hnd : ∀ c, (Oper.mk dst op type pos after guard).op ≠ .defer c := fun c e => by dsimp only at e; subst e; simp [actK] at h
  unfold actK at h
  dsimp only at h
  split at h
  · rename_i t
    split at h
    · rename_i z hz
      exact acts_value hnd (v := .pointer (some ⟨w.heap.size, 0, none⟩)) (w' := w.alloc (.cells z.cells t)) (by simp [execOp, Instr.alloc, run_zero' hz, newVar, run_newRow]) h
    · cases h
  · rename_i t x
    exact acts_value hnd (v := .pointer (some ⟨w.heap.size, 0, none⟩)) (w' := w.alloc (.cells (ev env x).cells t)) (by simp [execOp, Instr.box, newVar, run_newRow]) h
  · rename_i t a x
    split at h
    · rename_i p n e hn
      split at h
      · rename_i hs
        obtain ⟨hw, ho, hK⟩ := h
        exact acts_skip hnd (by simp [execOp, e, Instr.storeAt, Instr.sureAddr, run_storeVar hn (Nat.eq_of_beq_eq_true hs) hw ho]) hK
      · cases h
    · cases h
  · rename_i t len parts
    split at h
    · rename_i e he
      split at h
      · rename_i sz z hsz hz
        have h' : ∃ cs : Array Value, Nat.ble (len * sz) 16777216 = true ∧ Instr.fill (fun i => some (i * sz, sz)) (zrow (if len * sz = 0 then #[] else z.cells) (len * sz)) (parts.toList.map fun p => (p.1, ev env p.2)) = some cs ∧ allocK (.cells cs e) w fun a w' => K (.slice (some a) len len) w' := by
          split at h
          · split at h
            · rename_i hle
              obtain ⟨cs, hf, h⟩ := h
              exact ⟨cs, hle, hf, h⟩
            · cases h
          · split at h
            · rename_i cs hle hf
              exact ⟨cs, hle, hf, h⟩
            · cases h
        obtain ⟨cs, hle, hf, h⟩ := h'
        have hle' : ¬ (len * sz > 2 ^ 24) := by have := Nat.le_of_ble_eq_true hle; omega
        refine acts_value hnd (v := .slice (some ⟨w.heap.size, 0, none⟩) len len) (w' := w.alloc (.cells cs e)) ?_ h
        have hu := sliceElem_spec he
        have hp : (parts.map fun (i, x) => (i, ev env x)).toList = parts.toList.map fun p => (p.1, ev env p.2) := by simp
        have key : (Instr.buildSlice t len (parts.map fun (i, x) => (i, ev env x))).run P w = .ok (.slice (some ⟨w.heap.size, 0, none⟩) len len) (w.alloc (.cells cs e)) := by
          unfold Instr.buildSlice
          simp only [Sem.run_bind, run_underlying' hu, Result.andThen_ok, run_sizeOf' hsz, if_neg hle', Sem.run_pure, hp]
          by_cases h0 : len * sz = 0
          · simp only [h0, if_true, ← zrow_eq] at hf ⊢
            simp only [range_zero_map, Sem.run_pure, Result.andThen_ok] at hf ⊢
            simp [hf, run_newRow]
          · simp only [h0, if_false, ← zrow_eq] at hf ⊢
            simp only [Sem.run_bind, run_zero' hz, Sem.run_pure, Result.andThen_ok]
            rw [hf]
            simp [run_newRow]
        simp [execOp, key]
      · cases h
    · cases h
  · rename_i t r
    split at h
    · exact acts_value hnd (v := .map (some w.heap.size)) (w' := w.alloc (.map #[] 0)) (by simp [execOp, Instr.makeMap]) h
    · rename_i x
      split at h
      · rename_i k e kk n hu e1
        exact acts_value hnd (v := .map (some w.heap.size)) (w' := w.alloc (.map #[] 0)) (by simp [execOp, Instr.makeMap, run_underlying' hu, e1, asInt, asIntOf]) h
      · cases h
  · rename_i t l c
    split at h
    · rename_i e l' c' he e1 e2
      split at h
      · rename_i i hi
        split at h
        · rename_i z hz
          obtain ⟨h0, h1, h2, h3, hK⟩ := h
          refine acts_value hnd (v := .slice (some ⟨w.heap.size, 0, none⟩) l'.toNat c'.toNat) (w' := w.alloc (.cells (zrow z.cells (c'.toNat * i.size)) e)) ?_ hK
          have hu := sliceElem_spec he
          have wl : IntKind.i64.wrap l' = l' := by rw [IntKind.wrap_i64]; omega
          have wc : IntKind.i64.wrap c' = c' := by rw [IntKind.wrap_i64]; omega
          have key : (Instr.makeSlice t (.int .i64 l') (.int .i64 c')).run P w = .ok (.slice (some ⟨w.heap.size, 0, none⟩) l'.toNat c'.toNat) (w.alloc (.cells (zrow z.cells (c'.toNat * i.size)) e)) := by
            have t1 : (c' < 0 || (i.bytes : Int) * c' > 2 ^ 48) = false := by simp; omega
            have t2 : (l' < 0) = False := by simp; omega
            have t3 : (l' > c') = False := by simp; omega
            rw [← zrow_eq]
            unfold Instr.makeSlice
            simp only [Sem.run_bind, run_underlying' hu, Result.andThen_ok, run_asInt, run_typeInfo hi, wl, wc]
            simp only [t1, t2, t3, decide_false, Bool.or_false, Bool.false_eq_true, if_false, Sem.run_pure, Result.andThen_ok, Sem.run_ite, run_askRoom, run_sizeOf hi]
            simp only [Sem.run_bind, run_askRoom, Result.andThen_ok, run_sizeOf hi]
            by_cases hn : c'.toNat * i.size = 0
            · simp only [hn, if_true, Sem.run_pure, Result.andThen_ok, run_newRow, Sem.run_bind]; rw [range_zero_map, range_zero_map]
            · simp only [hn, if_false, Sem.run_bind, run_zeroValue hi hz, Sem.run_pure, Result.andThen_ok, run_newRow]
          simp [execOp, e1, e2, key]
        · cases h
      · cases h
    · cases h
  · obtain ⟨w', hr, hK⟩ := h
    exact acts_skip hnd (by simp [execOp, hr]) hK
  · obtain ⟨w', hr, hK⟩ := h
    exact acts_skip hnd (by simp [execOp, hr]) hK
  · obtain ⟨x, w', hr, hK⟩ := h
    exact acts_value hnd (by simp [execOp, hr]) hK
  · obtain ⟨x, w', hr, hK⟩ := h
    exact acts_value hnd (by simp [execOp, hr]) hK
  · obtain ⟨b, vs, w', hr, hK⟩ := h
    exact acts_value hnd (by simp [execOp, hr]) hK
  · split at h
    · obtain ⟨k, v, w', hr, hK⟩ := h
      exact acts_value hnd (by simp [execOp, hr]) hK
    · obtain ⟨k, v, w', hr, hK⟩ := h
      exact acts_value hnd (by simp [execOp, hr]) hK
  · -- call
    rename_i f args argTypes
    unfold callV at h
    split at h
    · rename_i g first captured e
      split at h
      · rename_i hb
        unfold callP at h
        refine acts_enter hnd (f := g) (args := (first.toList ++ args.toList.map (ev env) ++ captured.toList).toArray) ?_ (h.mono fun e w' ⟨r, he, hK⟩ => ⟨_, he, hK⟩)
        unfold bodyful at hb
        split at hb
        · rename_i fn hf
          simp only [Bool.and_eq_true, bne_iff_ne, ne_eq] at hb
          obtain ⟨c, hc⟩ := Option.isSome_iff_exists.1 hb.2
          have ea : (first.toList ++ args.toList.map (ev env) ++ captured.toList).toArray = first ++ args.map (ev env) ++ captured := by apply Array.ext'; simp
          rw [ea]
          simp [execOp, resolve, e, Deferred.ofValue, invoke, callFunc, hf, hb.1, hc]
        · cases hb
      · cases h
    · rename_i l first captured e
      obtain ⟨fn, tmps, assign, body, hy, hR⟩ := h
      refine acts_round hnd (l := l) (f := fn) (tmps := tmps) (assign := assign) (body := body) ?_ (hR.mono fun e w' ⟨r, he, hK⟩ => ⟨_, he, hK⟩)
      have ea : (first.toList ++ args.toList.map (ev env)).toArray = first ++ args.map (ev env) := by apply Array.ext'; simp
      rw [ea] at hy
      simpa [execOp, resolve, e, Deferred.ofValue, invoke] using hy
    · cases h
  · -- append
    rename_i args argTypes
    split at h
    · rename_i t t2 a b h0 h1 a0 a1
      split at h
      · rename_i e base len cap he h2 hd ea
        obtain ⟨d2, hd2⟩ := Option.isSome_iff_exists.1 h2
        split at h
        · rename_i i hi
          split at h
          · rename_i z hz
            split at h
            · rename_i b2 n c2 eb
              obtain ⟨v, w', hr, hK⟩ := run_append (args := args.map (ev env)) (ty := type) h0 h1 (by simp [a0, ea]) (by simp [a1, eb]) (sliceElem_spec he) hd2 hd hi hz (.inl ⟨_, _, rfl⟩) h
              exact acts_value hnd (by simp [execOp, resolve, invoke, builtin, hr]) hK
            · rename_i s eb
              obtain ⟨v, w', hr, hK⟩ := run_append (args := args.map (ev env)) (ty := type) h0 h1 (by simp [a0, ea]) (by simp [a1, eb]) (sliceElem_spec he) hd2 hd hi hz (.inr ⟨_, rfl, rfl⟩) h
              exact acts_value hnd (by simp [execOp, resolve, invoke, builtin, hr]) hK
            · cases h
          · cases h
        · cases h
      · cases h
    · cases h
  · obtain ⟨x, w', hr, hK⟩ := h
    rw [map_eq] at hr; exact acts_value hnd (by simp [execOp, resolve, invoke, builtin, hr]) hK
  · obtain ⟨x, w', hr, hK⟩ := h
    rw [map_eq] at hr; exact acts_value hnd (by simp [execOp, resolve, invoke, builtin, hr]) hK
  · obtain ⟨x, w', hr, hK⟩ := h
    rw [map_eq] at hr; exact acts_value hnd (by simp [execOp, resolve, invoke, builtin, hr]) hK
  · cases h

end Go.Den
