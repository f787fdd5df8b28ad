/- Equality of values, and maps by their entries. Generic: no statement, no project text. -/
import Derived.Test.YtddhndabnbckmaaHeap
import Derived.Laws.StructEq
import Derived.WideKeyRuns
import Derived.MapKept
namespace Go.Den

/-! ### Equality of values whose leaves are numbers and truth values -/
def beqT : (t : Ty) → t.T → t.T → Bool
  | .int _, x, y => x == y
  | .bool, x, y => x == y
  | .pair a b, x, y => beqT a x.1 y.1 && beqT b x.2 y.2
  | .st t, x, y => beqT t x y
  | _, _, _ => false
def leafT : Ty → Bool
  | .int _ => true
  | .bool => true
  | .pair a b => leafT a && leafT b
  | .st t => leafT t
  | _ => false
theorem beqT_iff : ∀ (t : Ty), leafT t = true → ∀ x y : t.T, beqT t x y = true ↔ x = y
  | .int _, _, x, y => by simp [beqT]
  | .bool, _, x, y => by simp [beqT]
  | .pair a b, h, x, y => by
    simp only [leafT, Bool.and_eq_true] at h
    simp only [beqT, Bool.and_eq_true, beqT_iff a h.1, beqT_iff b h.2]
    exact ⟨fun e => Prod.ext e.1 e.2, fun e => by rw [e]; exact ⟨rfl, rfl⟩⟩
  | .st t, h, x, y => by simp only [beqT]; exact beqT_iff t h x y
theorem cells_len : ∀ (t : Ty) (x : t.T), (cells t x).length = t.size
  | .int _, _ => rfl
  | .bool, _ => rfl
  | .str, _ => rfl
  | .ptr, _ => rfl
  | .addr, _ => rfl
  | .slice, _ => rfl
  | .map, _ => rfl
  | .iface, _ => rfl
  | .func, _ => rfl
  | .unit, _ => rfl
  | .pair a b, x => by simp only [cells, List.length_append, Ty.size]; rw [cells_len a, cells_len b]
  | .st t, x => by simp only [cells, Ty.size]; exact cells_len t x
  | .tup t, x => by simp only [cells, Ty.size]; exact cells_len t x

def fieldOK (P : Program) (e : TypeId → Ty → Bool) (f : Field) (a : Ty) (off : Nat) : Bool := match a with
  | .st t => f.name != "_" && Nat.beq f.offset off && e f.type (.st t) && isAggP P f.type && (match szOf P f.type with | some n => Nat.beq n t.size | none => false)
  | .int k => f.name != "_" && Nat.beq f.offset off && e f.type (.int k) && !isAggP P f.type && (P.underlying f.type).isSome
  | .bool => f.name != "_" && Nat.beq f.offset off && e f.type .bool && !isAggP P f.type && (P.underlying f.type).isSome
  | _ => false
def fsOK (P : Program) (e : TypeId → Ty → Bool) : List Field → Ty → Nat → Bool
  | [], _, _ => false
  | f :: fs, c, off => match fs, c with
    | [], a => fieldOK P e f a off
    | _, .pair a b => fieldOK P e f a off && fsOK P e fs b (off + a.size)
    | _, _ => false
def eqOK (P : Program) : Nat → TypeId → Ty → Bool
  | 0, _, _ => false
  | d + 1, t, ty => match ty, P.underlying t with
    | .int k, some (.int k') => decide (k = k')
    | .bool, some .bool => true
    | .st c, some (.struct fs) => !P.stoodInHeld t && fsOK P (eqOK P d) fs.toList c 0
    | _, _ => false

section
variable {P : Program} {w : World}

theorem field_part {e : TypeId → Ty → Bool} {f : Field} {a : Ty} {off : Nat} (h : fieldOK P e f a off = true) {xs : Array Value} {pre post : List Value} {x : a.T}
    (hx : xs.toList = pre ++ cells a x ++ post) (hp : pre.length = off) : e f.type a = true ∧ f.name ≠ "_" ∧ ∀ w, (part f.type xs f.offset).run P w = .ok (val a x) w := by
  have key : ∀ v : Value, cells a x = [v] → (P.underlying f.type).isSome = true → isAggP P f.type = false → f.offset = off → ∀ w, (part f.type xs f.offset).run P w = .ok v w := by
    intro v hv hu ha ho w
    refine run_part ?_
    unfold partV
    cases hu' : P.underlying f.type with
    | none => rw [hu'] at hu; cases hu
    | some d =>
      simp only [ha, ho]
      rw [← Array.getElem?_toList, hx, hv, ← hp]
      simp
  cases a with
  | int k =>
    simp only [fieldOK, Bool.and_eq_true, bne_iff_ne, ne_eq, Bool.not_eq_true'] at h
    obtain ⟨⟨⟨⟨h1, h2⟩, h3⟩, h4⟩, h5⟩ := h
    exact ⟨h3, h1, key _ rfl h5 h4 (Nat.eq_of_beq_eq_true h2)⟩
  | bool =>
    simp only [fieldOK, Bool.and_eq_true, bne_iff_ne, ne_eq, Bool.not_eq_true'] at h
    obtain ⟨⟨⟨⟨h1, h2⟩, h3⟩, h4⟩, h5⟩ := h
    exact ⟨h3, h1, key _ rfl h5 h4 (Nat.eq_of_beq_eq_true h2)⟩
  | st t =>
    simp only [fieldOK, Bool.and_eq_true, bne_iff_ne, ne_eq] at h
    obtain ⟨⟨⟨⟨h1, h2⟩, h3⟩, h4⟩, h5⟩ := h
    refine ⟨h3, h1, fun w => run_part ?_⟩
    unfold partV
    cases hs : szOf P f.type with
    | none => rw [hs] at h5; cases h5
    | some n =>
      rw [hs] at h5
      have hn : n = t.size := Nat.eq_of_beq_eq_true h5
      cases hu' : P.underlying f.type with
      | none => simp [isAggP, hu'] at h4
      | some d =>
        simp only [h4, val]
        congr 2
        apply Array.ext'
        rw [Array.toList_extract, hx, Nat.eq_of_beq_eq_true h2, ← hp, List.extract_eq_take_drop]
        have hl : (cells t x).length = n := by rw [cells_len, hn]
        have he : cells (.st t) x = cells t x := rfl
        rw [he]
        simp [← hl]
  | _ => simp [fieldOK] at h

theorem eqFields_run {D : Nat} {e : TypeId → Ty → Bool} (he : ∀ t ty, e t ty = true → ∀ x y : ty.T, ∀ w, (Op.equalIn D t (val ty x) (val ty y)).run P w = .ok (beqT ty x y) w) {xs ys : Array Value} :
    ∀ (fs : List Field) (c : Ty) (off : Nat) (px py : List Value) (x y : c.T), fsOK P e fs c off = true → xs.toList = px ++ cells c x → px.length = off → ys.toList = py ++ cells c y → py.length = off →
      ∀ w, (Op.eqFields D xs ys fs).run P w = .ok (beqT c x y) w := by
  intro fs
  induction fs with
  | nil => intro c off px py x y h; simp [fsOK] at h
  | cons f fs ih =>
    intro c off px py x y h hx hpx hy hpy w
    cases fs with
    | nil =>
      simp only [fsOK] at h
      obtain ⟨h1, h2, h3⟩ := field_part h (x := x) (pre := px) (post := []) (by simpa using hx) hpx
      obtain ⟨_, _, h4⟩ := field_part h (x := y) (pre := py) (post := []) (by simpa using hy) hpy
      simp only [Op.eqFields, ne_eq, h2, not_false_eq_true, if_true, Sem.run_bind, h3, h4, Result.andThen_ok, he _ _ h1]
      cases beqT c x y <;> simp
    | cons g fs =>
      cases c with
      | pair a b =>
        simp only [fsOK, Bool.and_eq_true] at h
        obtain ⟨ha, hb⟩ := h
        have hx' : xs.toList = px ++ cells a x.1 ++ cells b x.2 := by rw [hx]; simp [cells]
        have hy' : ys.toList = py ++ cells a y.1 ++ cells b y.2 := by rw [hy]; simp [cells]
        obtain ⟨h1, h2, h3⟩ := field_part ha (x := x.1) hx' hpx
        obtain ⟨_, _, h4⟩ := field_part ha (x := y.1) hy' hpy
        have := ih b (off + a.size) (px ++ cells a x.1) (py ++ cells a y.1) x.2 y.2 hb hx' (by simp [cells_len, hpx]) hy' (by simp [cells_len, hpy]) w
        rw [Op.eqFields]
        simp only [ne_eq, h2, not_false_eq_true, if_true, Sem.run_bind, h3, h4, Result.andThen_ok, he _ _ h1, beqT]
        cases beqT a x.1 y.1
        · simp
        · simp [this]
      | _ => simp [fsOK] at h

theorem equalIn_run : ∀ (d D : Nat), d ≤ D → ∀ (t : TypeId) (ty : Ty), eqOK P d t ty = true → ∀ (x y : ty.T) (w : World), (Op.equalIn D t (val ty x) (val ty y)).run P w = .ok (beqT ty x y) w := by
  intro d
  induction d with
  | zero => intro D _ t ty h; simp [eqOK] at h
  | succ d ih =>
    intro D hD t ty h x y w
    obtain ⟨D, rfl⟩ : ∃ E, D = E + 1 := ⟨D - 1, by omega⟩
    unfold eqOK at h
    split at h
    · rename_i hu
      exact run_equalIn_int w D t _ _ _ _ hu
    · rename_i hu
      exact run_equalIn_bool' w D t _ _ hu
    · rename_i c fs hu
      simp only [Bool.and_eq_true, Bool.not_eq_true'] at h
      have hf : P.fieldsOf t = fs := by unfold Program.fieldsOf; rw [hu]
      show (Op.equalIn (D + 1) t (.agg _) (.agg _)).run P w = _
      rw [run_equalIn_agg w D t _ _ (by rw [hf]; exact hu) h.1, hf]
      exact eqFields_run (fun t ty h x y w => ih D (by omega) t ty h x y w) fs.toList c 0 [] [] x y h.2 (by simp) rfl (by simp) rfl w
    · cases h
theorem equal_run {d : Nat} (hd : d ≤ 10000) {t : TypeId} {ty : Ty} (h : eqOK P d t ty = true) (x y : ty.T) (w : World) : (Op.equal t (val ty x) (val ty y)).run P w = .ok (beqT ty x y) w :=
  equalIn_run d 10000 hd t ty h x y w

theorem test_eql {d : Nat} {t : TypeId} {c : Ty} {xo yo : Operand} {x y : (Ty.st c).T} {K : Bool → Prop} (hd : d ≤ 10000) (h : eqOK P d t (.st c) = true) (hg : P.eqGuardType P.depth t = false) (hK : K (beqT c x y)) :
    testK P (do eqGuard .eql t xo yo (val (.st c) x) (val (.st c) y); binOp .eql t (val (.st c) x) (val (.st c) y)) K := by
  refine ⟨_, fun w => ?_, hK⟩
  rw [Sem.run_bind]
  have e1 : (eqGuard .eql t xo yo (val (.st c) x) (val (.st c) y)).run P w = .ok () w := run_eqGuard_agg w .eql t xo yo _ _ hg
  have e2 : (binOp .eql t (val (.st c) x) (val (.st c) y)).run P w = _ := run_eql_struct w t _ _
  rw [e1, Result.andThen_ok, e2]
  have := equal_run hd h x y w
  unfold Op.equal Op.maxDepth at this
  simp only [val] at this
  rw [this]; rfl
theorem test_neq {d : Nat} {t : TypeId} {c : Ty} {xo yo : Operand} {x y : (Ty.st c).T} {K : Bool → Prop} (hd : d ≤ 10000) (h : eqOK P d t (.st c) = true) (hg : P.eqGuardType P.depth t = false) (hK : K (!beqT c x y)) :
    testK P (do eqGuard .neq t xo yo (val (.st c) x) (val (.st c) y); binOp .neq t (val (.st c) x) (val (.st c) y)) K := by
  refine ⟨_, fun w => ?_, hK⟩
  rw [Sem.run_bind]
  have e1 : (eqGuard .neq t xo yo (val (.st c) x) (val (.st c) y)).run P w = .ok () w := run_eqGuard_agg w .neq t xo yo _ _ hg
  have e2 : (binOp .neq t (val (.st c) x) (val (.st c) y)).run P w = _ := run_neq_struct w t _ _
  rw [e1, Result.andThen_ok, e2]
  have := equal_run hd h x y w
  unfold Op.equal Op.maxDepth at this
  simp only [val] at this
  rw [this]; rfl

/-! ### Keys of maps -/
theorem chkFields_run {n : Nat} {e : TypeId → Ty → Bool} (he : ∀ t ty, e t ty = true → ∀ (x : ty.T) (em : Bool) w, (Instr.checkKey em n t (val ty x)).run P w = .ok () w) {xs : Array Value} (em : Bool) :
    ∀ (fs : List Field) (c : Ty) (off : Nat) (px : List Value) (x : c.T), fsOK P e fs c off = true → xs.toList = px ++ cells c x → px.length = off →
      ∀ w, (Sem.run P (forIn fs PUnit.unit fun f (_ : PUnit) => do
        if f.name ≠ "_" then do
          Instr.checkKey em n f.type (← part f.type xs f.offset)
          pure (ForInStep.yield PUnit.unit)
        else pure (ForInStep.yield PUnit.unit)) w) = .ok PUnit.unit w := by
  intro fs
  induction fs with
  | nil => intro c off px x h; simp [fsOK] at h
  | cons f fs ih =>
    intro c off px x h hx hpx w
    cases fs with
    | nil =>
      simp only [fsOK] at h
      obtain ⟨h1, h2, h3⟩ := field_part h (x := x) (pre := px) (post := []) (by simpa using hx) hpx
      simp [List.forIn_cons, h2, h3, he _ _ h1]
    | cons g fs =>
      cases c with
      | pair a b =>
        simp only [fsOK, Bool.and_eq_true] at h
        obtain ⟨ha, hb⟩ := h
        have hx' : xs.toList = px ++ cells a x.1 ++ cells b x.2 := by rw [hx]; simp [cells]
        obtain ⟨h1, h2, h3⟩ := field_part ha (x := x.1) hx' hpx
        have := ih b (off + a.size) (px ++ cells a x.1) x.2 hb hx' (by simp [cells_len, hpx]) w
        rw [List.forIn_cons]
        simp only [ne_eq, h2, not_false_eq_true, if_true, Sem.run_bind, h3, Result.andThen_ok, he _ _ h1, Sem.run_pure]
        simpa using this
      | _ => simp [fsOK] at h
theorem checkKey_run : ∀ (d D : Nat), d ≤ D → ∀ (t : TypeId) (ty : Ty), eqOK P d t ty = true → ∀ (x : ty.T) (em : Bool) (w : World), (Instr.checkKey em D t (val ty x)).run P w = .ok () w := by
  intro d
  induction d with
  | zero => intro D _ t ty h; simp [eqOK] at h
  | succ d ih =>
    intro D hD t ty h x em w
    obtain ⟨D, rfl⟩ : ∃ E, D = E + 1 := ⟨D - 1, by omega⟩
    unfold eqOK at h
    split at h
    · rename_i hu
      simp [Instr.checkKey, run_underlying hu, val]
    · rename_i hu
      simp [Instr.checkKey, run_underlying hu, val]
    · rename_i c fs hu
      simp only [Bool.and_eq_true, Bool.not_eq_true'] at h
      have := chkFields_run (n := D) (fun t ty h x em w => ih D (by omega) t ty h x em w) em fs.toList c 0 [] x h.2 (xs := (cells c x).toArray) (by simp) rfl w
      simp only [Instr.checkKey, Sem.run_bind, run_underlying hu, Result.andThen_ok, val]
      rw [← Array.forIn_toList]
      exact (congrArg (fun r => Result.andThen r fun _ w' => Sem.run P (pure ()) w') this).trans (by simp)
    · cases h

def fnd (ty : Ty) (x : ty.T) : List MapEntry → List ty.T → Nat → Option (Nat × Value)
  | e :: es, k :: ks, i => if beqT ty x k then some (i, e.val) else fnd ty x es ks (i + 1)
  | _, _, _ => none
theorem findAsking_run {t : TypeId} {ty : Ty} (heq : ∀ (x y : ty.T) w, (Op.equal t (val ty x) (val ty y)).run P w = .ok (beqT ty x y) w) (x : ty.T) :
    ∀ (es : List MapEntry) (ks : List ty.T) (i : Nat), es.map (·.key) = ks.map (val ty) → (Instr.findAsking t (val ty x) es i).run P w = .ok (fnd ty x es ks i) w
  | [], ks, i, h => by simp [Instr.findAsking, fnd]
  | e :: es, [], i, h => by simp at h
  | e :: es, k :: ks, i, h => by
    simp only [List.map_cons, List.cons.injEq] at h
    simp only [Instr.findAsking, Sem.run_bind, h.1, heq, Result.andThen_ok, fnd]
    cases beqT ty x k
    · simpa using findAsking_run heq x es ks (i + 1) h.2
    · simp
theorem findNow_int {k : IntKind} (x : Int) : ∀ (es : List MapEntry) (ks : List Int) (i : Nat), es.map (·.key) = ks.map (val (.int k)) → Instr.findNow (.int k) (.int k x) es i = some (fnd (.int k) x es ks i)
  | [], ks, i, h => by simp [Instr.findNow, fnd]
  | e :: es, [], i, h => by simp at h
  | e :: es, y :: ks, i, h => by
    simp only [List.map_cons, List.cons.injEq] at h
    simp only [Instr.findNow, h.1, val, Instr.sameNow, fnd, beqT]
    by_cases hxy : x = y
    · subst hxy; simp
    · have := findNow_int x es ks (i + 1) h.2
      have hb : (x == y) = false := by simp [hxy]
      simp only [if_pos, hb, Bool.false_eq_true, if_false]
      exact this
theorem findKey_run {d : Nat} (hd : d ≤ 10000) {t : TypeId} {ty : Ty} (h : eqOK P d t ty = true) (hb : ty ≠ .bool) (x : ty.T) (es : List MapEntry) (ks : List ty.T) (he : es.map (·.key) = ks.map (val ty)) :
    (Instr.findKey t (val ty x) es).run P w = .ok (fnd ty x es ks 0) w := by
  have heq := equal_run hd h
  cases d with
  | zero => simp [eqOK] at h
  | succ d =>
    unfold eqOK at h
    split at h
    · rename_i hu
      have hk := of_decide_eq_true h
      subst hk
      simp only [Instr.findKey, Sem.run_bind, run_underlying hu, Result.andThen_ok, val]
      rw [findNow_int x es ks 0 he]
      simp
    · exact absurd rfl hb
    · rename_i hu
      rw [run_findKey_eq w (by rw [hu])]
      exact findAsking_run heq x es ks 0 he
    · cases h

/-! ### Maps by their entries, oldest first -/
def MapIs (kt vt : Ty) (w : World) (r : Nat) (es : List (kt.T × vt.T)) : Prop :=
  ∃ arr clock, w.heap[r]? = some (.map arr clock) ∧ arr.toList.map (fun e => (e.key, e.val)) = es.map (fun p => (val kt p.1, val vt p.2))
variable {kt vt : Ty}
theorem MapIs.heap {w' : World} {r : Nat} {es : List (kt.T × vt.T)} (h : MapIs kt vt w r es) (e : w'.heap[r]? = w.heap[r]?) : MapIs kt vt w' r es := by
  obtain ⟨a, c, h1, h2⟩ := h
  exact ⟨a, c, by rw [e]; exact h1, h2⟩
theorem MapIs.lt {r : Nat} {es : List (kt.T × vt.T)} (h : MapIs kt vt w r es) : r < w.heap.size := by
  obtain ⟨a, c, h1, _⟩ := h
  exact (Array.getElem?_eq_some_iff.1 h1).1
theorem MapIs.fr {F : Nat → Prop} {w' : World} {r : Nat} {es : List (kt.T × vt.T)} (h : MapIs kt vt w r es) (f : Fr F w w') (hF : ¬ F r) : MapIs kt vt w' r es := h.heap (f.same r h.lt hF)
theorem MapIs.ext {w' : World} {r : Nat} {es : List (kt.T × vt.T)} (h : MapIs kt vt w r es) (f : Ext w w') : MapIs kt vt w' r es := h.fr f fun h => h
def lk (es : List (kt.T × vt.T)) (x : kt.T) : Option vt.T := (es.find? fun p => beqT kt x p.1).map (·.2)
theorem fnd_lk {x : kt.T} : ∀ (ls : List MapEntry) (es : List (kt.T × vt.T)) (i : Nat), ls.map (fun e => (e.key, e.val)) = es.map (fun p => (val kt p.1, val vt p.2)) →
    (fnd kt x ls (es.map (·.1)) i).map (·.2) = (lk es x).map (val vt)
  | [], [], i, _ => by simp [fnd, lk]
  | [], _ :: _, _, h => by simp at h
  | _ :: _, [], _, h => by simp at h
  | e :: ls, p :: es, i, h => by
    simp only [List.map_cons, List.cons.injEq, Prod.mk.injEq] at h
    have := fnd_lk (x := x) ls es (i + 1) h.2
    simp only [List.map_cons, fnd, lk, List.find?_cons, h.1.2] at this ⊢
    cases hb : beqT kt x p.1
    · simpa using this
    · simp
theorem keys_of {ls : List MapEntry} {es : List (kt.T × vt.T)} (h : ls.map (fun e => (e.key, e.val)) = es.map (fun p => (val kt p.1, val vt p.2))) : ls.map (·.key) = (es.map (·.1)).map (val kt) := by
  have := congrArg (List.map Prod.fst) h
  simpa [List.map_map, Function.comp_def] using this

theorem lk2_run {d : Nat} (hd : d ≤ 10000) {t k e : TypeId} (hu : P.underlying t = some (.map k e)) (hk : eqOK P d k kt = true) (hb : kt ≠ .bool) {z : vt.T} (hz : zeroOf P e = some (val vt z))
    {r : Nat} {es : List (kt.T × vt.T)} (m : MapIs kt vt w r es) (x : kt.T) : Lk2 P t vt (.map (some r)) (val kt x) ((lk es x).getD z) (lk es x).isSome w := by
  obtain ⟨arr, clock, h1, h2⟩ := m
  unfold Lk2 Instr.lookup
  have hf := findKey_run (w := w) hd hk hb x arr.toList (es.map (·.1)) (keys_of h2)
  have hl := fnd_lk (x := x) arr.toList es 0 h2
  have hg : (getObj r).run P w = .ok (.map arr clock) w := MapKept.run_getObj_map h1
  simp only [Sem.run_bind, run_underlying hu, Result.andThen_ok, hg, Sem.run_pure, checkKey_run d 10000 hd k kt hk x, hf]
  cases hh : fnd kt x arr.toList (es.map (·.1)) 0 with
  | none =>
    rw [hh] at hl
    have hl' : lk es x = none := by
      cases h : lk es x with
      | none => rfl
      | some v => rw [h] at hl; cases hl
    simp [hl', run_zero' hz]
  | some p =>
    rw [hh] at hl
    cases h : lk es x with
    | none => rw [h] at hl; cases hl
    | some v =>
      rw [h] at hl
      simp only [Option.map_some, Option.some.injEq] at hl
      simp [hl]
theorem lk1_run {d : Nat} (hd : d ≤ 10000) {t k e : TypeId} (hu : P.underlying t = some (.map k e)) (hk : eqOK P d k kt = true) (hb : kt ≠ .bool) {z : vt.T} (hz : zeroOf P e = some (val vt z))
    {r : Nat} {es : List (kt.T × vt.T)} (m : MapIs kt vt w r es) (x : kt.T) : Lk1 P t vt (.map (some r)) (val kt x) ((lk es x).getD z) w := by
  unfold Lk1 Instr.lookup
  obtain ⟨arr, clock, h1, h2⟩ := m
  have hf := findKey_run (w := w) hd hk hb x arr.toList (es.map (·.1)) (keys_of h2)
  have hl := fnd_lk (x := x) arr.toList es 0 h2
  have hg : (getObj r).run P w = .ok (.map arr clock) w := MapKept.run_getObj_map h1
  simp only [Sem.run_bind, run_underlying hu, Result.andThen_ok, hg, Sem.run_pure, checkKey_run d 10000 hd k kt hk x, hf]
  cases hh : fnd kt x arr.toList (es.map (·.1)) 0 with
  | none =>
    rw [hh] at hl
    have hl' : lk es x = none := by
      cases h : lk es x with
      | none => rfl
      | some v => rw [h] at hl; cases hl
    simp [hl', run_zero' hz]
  | some p =>
    rw [hh] at hl
    cases h : lk es x with
    | none => rw [h] at hl; cases hl
    | some v =>
      rw [h] at hl
      simp only [Option.map_some, Option.some.injEq] at hl
      simp [hl]
/-- a key that is new -/
theorem up_run {d : Nat} (hd : d ≤ 10000) {t k e : TypeId} (hu : P.underlying t = some (.map k e)) (hk : eqOK P d k kt = true) (hb : kt ≠ .bool)
    {r : Nat} {es : List (kt.T × vt.T)} (m : MapIs kt vt w r es) (x : kt.T) (v : vt.T) (hn : lk es x = none) {K : World → Prop}
    (hK : ∀ w', Fr (fun b => b = r) w w' → MapIs kt vt w' r (es ++ [(x, v)]) → K w') : runU P (Instr.mapUpdate t (.map (some r)) (val kt x) (val vt v)) w K := by
  have hr := m.lt
  obtain ⟨arr, clock, h1, h2⟩ := m
  have hf := findKey_run (w := w) hd hk hb x arr.toList (es.map (·.1)) (keys_of h2)
  have hl := fnd_lk (x := x) arr.toList es 0 h2
  have hg : (getObj r).run P w = .ok (.map arr clock) w := MapKept.run_getObj_map h1
  have hh : fnd kt x arr.toList (es.map (·.1)) 0 = none := by
    rw [hn] at hl
    cases h : fnd kt x arr.toList (es.map (·.1)) 0 with
    | none => rfl
    | some p => rw [h] at hl; cases hl
  refine ⟨{ w with heap := w.heap.setIfInBounds r (.map (arr.push { key := val kt x, val := val vt v, born := clock }) (clock + 1)) }, ?_, hK _ ⟨?_, ?_, rfl, rfl, rfl⟩ ⟨arr.push { key := val kt x, val := val vt v, born := clock }, clock + 1, ?_, ?_⟩⟩
  · unfold Instr.mapUpdate
    simp only [Sem.run_bind, run_underlying hu, Result.andThen_ok, hg, checkKey_run d 10000 hd k kt hk x, hf, hh]
    simp [MapKept.run_setObj_map _ h1]
  · simp
  · intro b _ hb
    simp [Array.getElem?_setIfInBounds, Ne.symm hb]
  · simp [hr]
  · simp [h2]

end
end Go.Den
