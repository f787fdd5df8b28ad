/- Texts that belong together, joined: DenS. No conditions. -/
import Derived.Laws.Append
import Derived.Laws.Alloc2
import Derived.Test.YtcmncfglcjcmhaaGreatDen
/- The soundness of the denotation's operations. -/
set_option linter.unusedVariables false
set_option linter.unusedSimpArgs false
namespace Go.Den

variable {P : Program} {env : Env} {w : World}

/-! ### Memory -/
theorem Addr.add_zero' (a : Addr) : a.add 0 = a := by simp [Addr.add]
theorem Addr.add_add (a : Addr) (m n : Nat) : (a.add m).add n = a.add (m + n) := by
  unfold Addr.add
  by_cases h1 : m = 0 <;> by_cases h2 : n = 0 <;> simp [h1, h2, Nat.add_assoc]

theorem run_loadCellsFrom (P : Program) (w : World) (a : Addr) : ∀ (cs : List Value) (i : Nat) (acc : Array Value), (∀ j v, cs[j]? = some v → w.cell? (a.add (i + j)) = some v) →
    (loadCellsFrom a i cs.length acc).run P w = .ok (acc ++ cs.toArray) w := by
  intro cs
  induction cs with
  | nil => intro i acc _; simp [loadCellsFrom]
  | cons c cs ih =>
    intro i acc h
    have h0 : w.cell? (a.add i) = some c := by simpa using h 0 c rfl
    simp only [List.length_cons, loadCellsFrom, Sem.run_bind, run_load, h0, Result.andThen_ok]
    rw [ih (i + 1) (acc.push c) (fun j v hj => by have := h (j + 1) v (by simpa using hj); rwa [show i + 1 + j = i + (j + 1) by omega])]
    simp

theorem run_loadCells_at {a : Addr} {cs : List Value} (h : At w a cs) {n : Nat} (hn : cs.length = n) : (loadCells a n).run P w = .ok cs.toArray w := by
  subst hn
  rw [loadCells, run_loadCellsFrom P w a cs 0 #[] (by simpa [At] using h)]
  simp

theorem cells_length : ∀ (t : Ty) (x : t.T), (cells t x).length = t.size := by
  intro t
  induction t <;> intro x <;> simp_all [cells, Ty.size]

theorem okT_spec {t : TypeId} {ty : Ty} (h : okT P t ty = true) : ∃ i d, P.info? t = some i ∧ P.underlying t = some d ∧ i.size = ty.size ∧ isAggP P t = ty.isSt ∧ ty.plain = true := by
  unfold okT at h
  split at h
  · rename_i i d hi hd
    simp only [Bool.and_eq_true, beq_iff_eq] at h
    exact ⟨i, d, hi, hd, Nat.eq_of_beq_eq_true h.1.1, h.1.2, h.2⟩
  · cases h

theorem run_isAgg {t : TypeId} {d : TypeDesc} (hd : P.underlying t = some d) : (isAgg t).run P w = .ok (isAggP P t) w := by
  simp only [isAgg, underlying, Sem.run_bind, run_program, Result.andThen_ok, isAggP, hd]
  cases d <;> simp

theorem run_typeInfo {t : TypeId} {i : TypeInfo} (hi : P.info? t = some i) : (typeInfo t).run P w = .ok i w := by
  simp [typeInfo, hi]
theorem run_underlying' {t : TypeId} {d : TypeDesc} (hd : P.underlying t = some d) : (underlying t).run P w = .ok d w := by
  simp [underlying, hd]
theorem run_sizeOf {t : TypeId} {i : TypeInfo} (hi : P.info? t = some i) : (sizeOf t).run P w = .ok i.size w := by
  simp [sizeOf, run_typeInfo hi]
theorem run_zeroValue {t : TypeId} {i : TypeInfo} {z : Value} (hi : P.info? t = some i) (hz : i.zero = some z) : (zeroValue t).run P w = .ok z w := by
  simp [zeroValue, run_typeInfo hi, hz]

theorem plain_cases {ty : Ty} (h : ty.plain = true) (hs : ty.isSt = false) (x : ty.T) : cells ty x = [val ty x] := by
  cases ty <;> simp_all [Ty.plain, Ty.isSt, cells, val]

theorem run_loadVar_at {t : TypeId} {ty : Ty} (ho : okT P t ty = true) {a : Addr} {x : ty.T} (h : At w a (cells ty x)) : (loadVar t a).run P w = .ok (val ty x) w := by
  obtain ⟨i, d, hi, hd, hz, hg, hp⟩ := okT_spec ho
  simp only [loadVar, Sem.run_bind, run_isAgg hd, Result.andThen_ok, hg]
  cases hs : ty.isSt with
  | true =>
    have e := run_loadCells_at (P := P) h (n := i.size) (by rw [cells_length]; exact hz.symm)
    simp only [if_true, Sem.run_bind, run_sizeOf hi, Result.andThen_ok, e, Sem.run_pure]
    cases ty <;> first | (simp only [Ty.isSt] at hs; cases hs; done) | rfl
  | false =>
    have e := plain_cases hp hs x
    have := h 0 (val ty x) (by rw [e]; rfl)
    rw [Addr.add_zero'] at this
    simp [run_load, this]

theorem setCells_nil (w : World) (a : Addr) (i : Nat) : setCells w a i [] = w := rfl

theorem one_cell' {v : Value} (h : one v = true) : v.oneCell' = true := by
  cases v <;> simp_all [one, Value.oneCell']

theorem add_inj {a : Addr} (hs : a.spot = none) {i j : Nat} (h : a.add i = a.add j) : i = j := by
  have e : (a.add i).off = (a.add j).off := by rw [h]
  have f : ∀ n, (a.add n).off = a.off + n := fun n => by unfold Addr.add; split <;> simp_all
  rw [f, f] at e
  omega

theorem run_storeCells (P : Program) (a : Addr) : ∀ (cs : List Value) (i : Nat) (w : World), (∀ j, j < cs.length → (∃ v, w.cell? (a.add (i + j)) = some v) ∧ w.frozen? (a.add (i + j)) = false) → cs.all one = true →
    (storeCells a cs i).run P w = .ok () (setCells w a i cs) := by
  intro cs
  induction cs with
  | nil => intro i w _ _; simp [storeCells, setCells]
  | cons c cs ih =>
    intro i w h ho
    simp only [List.all_cons, Bool.and_eq_true] at ho
    obtain ⟨⟨v, hv⟩, hf⟩ := h 0 (by simp)
    simp only [Nat.add_zero] at hv hf
    have hst : (store (a.add i) c).run P w = .ok () (w.setCell (a.add i) c) := by
      rw [run_store P w (a.add i) c .plain (one_cell' ho.1)]
      simp [hv, hf]
    simp only [storeCells, Sem.run_bind, hst, Result.andThen_ok, setCells]
    refine ih (i + 1) _ (fun j hj => ?_) ho.2
    obtain ⟨⟨u, hu⟩, hg⟩ := h (j + 1) (by simpa using hj)
    rw [show i + 1 + j = i + (j + 1) by omega]
    refine ⟨?_, by rw [World.frozen?_setCell]; exact hg⟩
    by_cases e : a.add i = a.add (i + (j + 1))
    · rw [← e]; exact ⟨c, World.cell?_setCell_same w _ _ hv⟩
    · exact ⟨u, by rw [World.cell?_setCell_other w _ _ _ e]; exact hu⟩

theorem run_storeCells_wr {a : Addr} {cs : List Value} (h : Wr w a cs.length) (ho : cs.all one = true) : (storeCells a cs).run P w = .ok () (setCells w a 0 cs) :=
  run_storeCells P a cs 0 w (by simpa [Wr] using h) ho


/-! ### Operations that only reckon -/

theorem run_asInt (n : Int) (k : IntKind) : (asInt (.int k n)).run P w = .ok n w := by simp [asInt, asIntOf]
theorem run_asIntOf (n : Int) (k : IntKind) : (asIntOf (.int k n)).run P w = .ok (k, n) w := by simp [asIntOf]

theorem run_equal_of {t : TypeId} {x y : Value} {r : Bool} (h : ∀ n, (Op.equalIn (n + 1) t x y).run P w = .ok r w) : (Op.equal t x y).run P w = .ok r w := h 9999

theorem run_nilIfc {t : TypeId} {v : Value} (hi : isIfc v = true) {ms : Array (String × TypeId)} (hu : P.underlying t = some (.interface ms)) :
    (Op.equal t v .nilIface).run P w = .ok (isNilI v) w := by
  refine run_equal_of fun n => ?_
  cases v <;> first | (simp only [isIfc] at hi; cases hi; done) | simp [Op.equalIn, underlying, hu, isNilI]

theorem eqGuard_int (op : BinOp) (t : TypeId) (x y : Operand) (k k' : IntKind) (a b : Int) (w : World) : (eqGuard op t x y (.int k a) (.int k' b)).run P w = .ok () w := by
  unfold eqGuard; cases op <;> simp

theorem eqGuard_other (op : BinOp) (t : TypeId) (x y : Operand) (a b : Value) (h : ∀ xs, b ≠ .agg xs) (h2 : b = .nilIface → ∃ c, y = .const c) (w : World) : (eqGuard op t x y a b).run P w = .ok () w := by
  cases b with
  | agg xs => exact absurd rfl (h xs)
  | nilIface => obtain ⟨c, rfl⟩ := h2 rfl; cases op <;> cases a <;> simp [eqGuard]
  | _ => cases op <;> cases a <;> simp [eqGuard]

theorem intBin_sound {op : BinOp} {k : IntKind} {a b : Int} {K : Value → Prop} (h : intBin op k a b K) (hl : op ≠ .shl) (hr : op ≠ .shr) :
    ∃ v, (∀ t w, (binOp op t (.int k a) (.int k b)).run P w = .ok v w) ∧ K v := by
  cases op <;> simp only [intBin, arith, letZ] at h <;> (try exact absurd rfl hl) <;> (try exact absurd rfl hr)
  case quo => exact ⟨.int k (k.wrap (a.tdiv b)), fun t w => by simp [binOp, Op.intDiv, h.1], h.2 _ rfl⟩
  case rem => exact ⟨.int k (a.tmod b), fun t w => by simp [binOp, Op.intDiv, h.1], h.2 _ rfl⟩
  case add => exact ⟨_, fun t w => by simp [binOp, Op.intArith], h _ rfl⟩
  case sub => exact ⟨_, fun t w => by simp [binOp, Op.intArith], h _ rfl⟩
  case mul => exact ⟨_, fun t w => by simp [binOp, Op.intArith], h _ rfl⟩
  case and => exact ⟨_, fun t w => by simp [binOp, Op.intBits], h _ rfl⟩
  case or => exact ⟨_, fun t w => by simp [binOp, Op.intBits], h _ rfl⟩
  case xor => exact ⟨_, fun t w => by simp [binOp, Op.intBits], h _ rfl⟩
  case andNot => exact ⟨_, fun t w => by simp [binOp, Op.intBits], h _ rfl⟩
  case eql => exact ⟨_, fun t w => by simp [binOp, Op.intCmp], h⟩
  case neq => exact ⟨_, fun t w => by simp [binOp, Op.intCmp], h⟩
  case lss => exact ⟨_, fun t w => by simp [binOp, Op.intCmp], h⟩
  case leq => exact ⟨_, fun t w => by simp [binOp, Op.intCmp], h⟩
  case gtr => exact ⟨_, fun t w => by simp [binOp, Op.intCmp], h⟩
  case geq => exact ⟨_, fun t w => by simp [binOp, Op.intCmp], h⟩

theorem binK_sound {op : BinOp} {t : TypeId} {xo yo : Operand} {x y : Value} {K : Value → Prop} (h : binK P op t xo yo x y K) :
    ∃ v, (∀ w, (do eqGuard op t xo yo x y; binOp op t x y : Sem Value).run P w = .ok v w) ∧ K v := by
  unfold binK at h
  split at h
  · -- nil interface
    split at h
    · rename_i c ms hu
      refine ⟨_, fun w => ?_, h.2⟩
      rw [Sem.run_bind, eqGuard_other _ _ _ _ _ _ (by simp) (fun _ => ⟨_, rfl⟩), Result.andThen_ok]
      have := run_nilIfc (P := P) (w := w) h.1 hu
      cases x <;> first | (simp [isIfc, nilIfcK] at h; done) | simp [binOp, this]
    · rename_i c ms hu
      refine ⟨_, fun w => ?_, h.2⟩
      rw [Sem.run_bind, eqGuard_other _ _ _ _ _ _ (by simp) (fun _ => ⟨_, rfl⟩), Result.andThen_ok]
      have := run_nilIfc (P := P) (w := w) h.1 hu
      cases x <;> first | (simp [isIfc, nilIfcK] at h; done) | simp [binOp, this]
    · cases h
  · -- nil pointer
    split at h
    · rename_i a e hu
      refine ⟨_, fun w => ?_, h⟩
      rw [Sem.run_bind, eqGuard_other _ _ _ _ _ _ (by simp) (fun h => by cases h), Result.andThen_ok]
      have : (Op.equal t (.pointer a) (.pointer none)).run P w = .ok a.isNone w := run_equal_of fun n => by cases a <;> simp [Op.equalIn, underlying, hu]
      simp [binOp, this]
    · rename_i a e hu
      refine ⟨_, fun w => ?_, h⟩
      rw [Sem.run_bind, eqGuard_other _ _ _ _ _ _ (by simp) (fun h => by cases h), Result.andThen_ok]
      have : (Op.equal t (.pointer a) (.pointer none)).run P w = .ok a.isNone w := run_equal_of fun n => by cases a <;> simp [Op.equalIn, underlying, hu]
      simp [binOp, this]
    · cases h
  · -- integers
    split at h
    · rename_i k a
      split at h
      · refine ⟨_, fun w => ?_, h.2 _ rfl⟩
        rw [Sem.run_bind, eqGuard_int, Result.andThen_ok]
        simp [binOp, Op.shift, Int.not_lt.2 h.1]
      · refine ⟨_, fun w => ?_, h.2 _ rfl⟩
        rw [Sem.run_bind, eqGuard_int, Result.andThen_ok]
        simp [binOp, Op.shift, Int.not_lt.2 h.1]
      · rename_i hl hr
        split at h
        · rename_i hk
          have hk := of_decide_eq_true hk
          subst hk
          obtain ⟨v, hv, hK⟩ := intBin_sound (P := P) h (fun e => hl e) (fun e => hr e)
          refine ⟨v, fun w => ?_, hK⟩
          rw [Sem.run_bind, eqGuard_int, Result.andThen_ok, hv]
        · cases h
    · cases h
  · -- bools
    rename_i b
    split at h
    · rename_i a hu
      refine ⟨_, fun w => ?_, h⟩
      rw [Sem.run_bind, eqGuard_other _ _ _ _ _ _ (by simp) (fun h => by cases h), Result.andThen_ok]
      have : (Op.equal t (.bool a) (.bool b)).run P w = .ok (a == b) w := run_equal_of fun n => by simp [Op.equalIn, underlying, hu]
      simp [binOp, this]
    · rename_i a hu
      refine ⟨_, fun w => ?_, h⟩
      rw [Sem.run_bind, eqGuard_other _ _ _ _ _ _ (by simp) (fun h => by cases h), Result.andThen_ok]
      have : (Op.equal t (.bool a) (.bool b)).run P w = .ok (a == b) w := run_equal_of fun n => by simp [Op.equalIn, underlying, hu]
      simp [binOp, this]
    · cases h
  · -- nil slice
    rename_i l c
    split at h
    · rename_i a l' c' e hu
      refine ⟨_, fun w => ?_, h⟩
      rw [Sem.run_bind, eqGuard_other _ _ _ _ _ _ (by simp) (fun h => by cases h), Result.andThen_ok]
      have : (Op.equal t (.slice a l' c') (.slice none l c)).run P w = .ok a.isNone w := run_equal_of fun n => by cases a <;> simp [Op.equalIn, underlying, hu]
      simp [binOp, this]
    · rename_i a l' c' e hu
      refine ⟨_, fun w => ?_, h⟩
      rw [Sem.run_bind, eqGuard_other _ _ _ _ _ _ (by simp) (fun h => by cases h), Result.andThen_ok]
      have : (Op.equal t (.slice a l' c') (.slice none l c)).run P w = .ok a.isNone w := run_equal_of fun n => by cases a <;> simp [Op.equalIn, underlying, hu]
      simp [binOp, this]
    · cases h
  · -- nil map
    split at h
    · rename_i a k e hu
      refine ⟨_, fun w => ?_, h⟩
      rw [Sem.run_bind, eqGuard_other _ _ _ _ _ _ (by simp) (fun h => by cases h), Result.andThen_ok]
      have : (Op.equal t (.map a) (.map none)).run P w = .ok a.isNone w := run_equal_of fun n => by cases a <;> simp [Op.equalIn, underlying, hu]
      simp [binOp, this]
    · rename_i a k e hu
      refine ⟨_, fun w => ?_, h⟩
      rw [Sem.run_bind, eqGuard_other _ _ _ _ _ _ (by simp) (fun h => by cases h), Result.andThen_ok]
      have : (Op.equal t (.map a) (.map none)).run P w = .ok a.isNone w := run_equal_of fun n => by cases a <;> simp [Op.equalIn, underlying, hu]
      simp [binOp, this]
    · cases h
  · -- strings
    rename_i b
    split at h
    · refine ⟨_, fun w => ?_, h⟩
      rw [Sem.run_bind, eqGuard_other _ _ _ _ _ _ (by simp) (fun h => by cases h), Result.andThen_ok]
      simp [binOp, Op.stringOp]
    · refine ⟨_, fun w => ?_, h⟩
      rw [Sem.run_bind, eqGuard_other _ _ _ _ _ _ (by simp) (fun h => by cases h), Result.andThen_ok]
      simp [binOp, Op.stringOp]
    · refine ⟨_, fun w => ?_, h⟩
      rw [Sem.run_bind, eqGuard_other _ _ _ _ _ _ (by simp) (fun h => by cases h), Result.andThen_ok]
      simp [binOp, Op.stringOp]
    · rename_i a
      refine ⟨_, fun w => ?_, h.2⟩
      rw [Sem.run_bind, eqGuard_other _ _ _ _ _ _ (by simp) (fun h => by cases h), Result.andThen_ok]
      have hh := h.1
      have : ¬ ((a.size + b.size : Nat) : Int) > IntKind.i64.max := by
        have e : IntKind.i64.max = 9223372036854775807 := by decide
        rw [e]; omega
      simp only [binOp, Op.stringOp, if_neg this, Sem.run_pure]
    · cases h
  · -- structs
    split at h
    · obtain ⟨b, hb, hK⟩ := h
      exact ⟨.bool b, hb, hK⟩
    · cases h
  · cases h

/-- what an operation yields, in whatever world -/
def yieldsAny (P : Program) (ρ : Operand → Value) (o : Oper) (v : Value) : Prop := ∀ w, (execOp ρ o).run P w = .ok (.value v) w

theorem yieldsAny_of {ρ : Operand → Value} {o : Oper} {v : Value} {s : Sem Value} (he : execOp ρ o = (do pure (.value (← s)))) (h : ∀ w, s.run P w = .ok v w) : yieldsAny P ρ o v := by
  intro w; rw [he]; simp [h w]

theorem run_part {t : TypeId} {cs : Array Value} {off : Nat} {v : Value} (h : partV P t cs off = some v) : (part t cs off).run P w = .ok v w := by
  unfold partV at h
  split at h
  · rename_i d hd
    simp only [part, Sem.run_bind, run_isAgg hd, Result.andThen_ok]
    split at h
    · rename_i ha
      split at h
      · rename_i n hn
        unfold szOf at hn
        split at hn
        · rename_i i hi
          cases hn; cases h
          simp [ha, run_sizeOf hi]
        · cases hn
      · cases h
    · rename_i ha
      simp [ha, h]
  · cases h

theorem szOf_spec {t : TypeId} {n : Nat} (h : szOf P t = some n) : ∃ i, P.info? t = some i ∧ i.size = n := by
  unfold szOf at h
  split at h
  · exact ⟨_, by assumption, by cases h; rfl⟩
  · cases h
theorem run_sizeOf' {t : TypeId} {n : Nat} (h : szOf P t = some n) : (sizeOf t).run P w = .ok n w := by
  obtain ⟨i, hi, rfl⟩ := szOf_spec h
  exact run_sizeOf hi
theorem run_zero' {t : TypeId} {z : Value} (h : zeroOf P t = some z) : (zeroValue t).run P w = .ok z w := by
  unfold zeroOf at h
  split at h
  · exact run_zeroValue (by assumption) h
  · cases h

theorem run_build {t : TypeId} {parts : Array (Nat × Value)} {v : Value} (h : buildV P t parts.toList = some v) : (Instr.build t parts).run P w = .ok v w := by
  unfold buildV at h
  split at h
  · rename_i z fs hz hu
    split at h
    · rename_i cs hf ha
      cases h
      have hm : ∀ w, (fs.mapM (m := Sem) fun f => do pure (f.offset, ← sizeOf f.type)).run P w = .ok (fs.map fun f => (f.offset, ((szOf P f.type).getD 0))) w := by
        intro w
        rw [List.all_eq_true] at ha
        have key : ∀ (l : List Field), (∀ f ∈ l, (szOf P f.type).isSome = true) → ∀ w, (l.mapM (m := Sem) fun f => do pure (f.offset, ← sizeOf f.type)).run P w = .ok (l.map fun f => (f.offset, ((szOf P f.type).getD 0))) w := by
          intro l
          induction l with
          | nil => intro _ w; simp
          | cons f l ih =>
            intro hl w
            obtain ⟨n, hn⟩ := Option.isSome_iff_exists.1 (hl f (by simp))
            simp only [List.mapM_cons, Sem.run_bind, run_sizeOf' hn, Result.andThen_ok, Sem.run_pure]
            rw [ih (fun f hf => hl f (by simp [hf])) w]
            simp [hn]
        have := key fs.toList (fun f hf => ha f (by simpa using hf)) w
        rw [Array.mapM_eq_mapM_toList, Sem.run_map, this, Result.andThen_ok]
        congr 1
        rw [← Array.toList_map, Array.toArray_toList]
      have hp : (fun (i : Nat) => (fs.map fun (f : Field) => (f.offset, ((szOf P f.type).getD 0)))[i]?) = (fun (i : Nat) => (fs[i]?).bind fun (f : Field) => (szOf P f.type).map fun n => (f.offset, n)) := by
        funext i
        rw [List.all_eq_true] at ha
        simp only [Array.getElem?_map]
        cases hi : fs[i]? with
        | none => rfl
        | some f =>
          obtain ⟨n, hn⟩ := Option.isSome_iff_exists.1 (ha f (by simpa using Array.mem_of_getElem? hi))
          simp [hn]
      simp only [Instr.build, Sem.run_bind, run_zero' hz, Result.andThen_ok, run_underlying' hu, hm]
      rw [hp, hf]
      simp
    · cases h
  · rename_i z n e hz hu
    split at h
    · rename_i k hk
      split at h
      · rename_i cs hf
        cases h
        simp only [Instr.build, Sem.run_bind, run_zero' hz, Result.andThen_ok, run_underlying' hu, run_sizeOf' hk, hf, Sem.run_pure]
      · cases h
    · cases h
  · cases h

theorem run_boundIn (x : Int) (k : IntKind) (y : Nat) (c : BoundsCode) (h : 0 ≤ x ∧ x ≤ y) : (Instr.sliceBound (.int k x) y c).run P w = .ok x.toNat w := by
  simp [Instr.sliceBound, asIntOf, h]


theorem run_slK {t : TypeId} {e : TypeId} {sz : Nat} {a : Option Addr} {len cap : Nat} {lo hi : Option Value} {l h : Option Int} {K : Sl → Prop}
    (hu : P.underlying t = some (.slice e)) (hz : szOf P e = some sz) (hlo : (lo = none ∧ l = none) ∨ ∃ k n, lo = some (.int k n) ∧ l = some n) (hhi : (hi = none ∧ h = none) ∨ ∃ k n, hi = some (.int k n) ∧ h = some n)
    (H : slK sz a len cap l h K) : ∃ v : Sl, (∀ w, (Instr.sliceAt t (.slice a len cap) lo hi none).run P w = .ok (.slice v.a v.len v.cap) w) ∧ K v := by
  obtain ⟨h1, h2, h3⟩ := H
  refine ⟨_, fun w => ?_, h3⟩
  rcases hlo with ⟨rfl, rfl⟩ | ⟨k1, n1, rfl, rfl⟩ <;> rcases hhi with ⟨rfl, rfl⟩ | ⟨k2, n2, rfl, rfl⟩
  · simp [Instr.sliceAt, Instr.slice, run_underlying' hu, Instr.sliceBounds, run_sizeOf' hz]
  · have := h1 _ rfl
    simp [Instr.sliceAt, Instr.slice, run_underlying' hu, Instr.sliceBounds, run_sizeOf' hz, run_boundIn n2 k2 cap .sliceAcap this]
  · have h2' := h2 _ rfl
    have : 0 ≤ n1 ∧ n1 ≤ (len : Int) := by simp at h2'; omega
    simp [Instr.sliceAt, Instr.slice, run_underlying' hu, Instr.sliceBounds, run_sizeOf' hz, run_boundIn n1 k1 len .sliceB this]
  · have h1' := h1 _ rfl
    have h2' := h2 _ rfl
    have : 0 ≤ n1 ∧ n1 ≤ (n2.toNat : Int) := by simp at h2'; omega
    simp [Instr.sliceAt, Instr.slice, run_underlying' hu, Instr.sliceBounds, run_sizeOf' hz, run_boundIn n2 k2 cap .sliceAcap h1', run_boundIn n1 k1 n2.toNat .sliceB this]

theorem run_strK {t : TypeId} {s : ByteArray} {lo hi : Option Value} {l h : Option Int} {K : ByteArray → Prop}
    (hu : P.underlying t = some .string) (hlo : (lo = none ∧ l = none) ∨ ∃ k n, lo = some (.int k n) ∧ l = some n) (hhi : (hi = none ∧ h = none) ∨ ∃ k n, hi = some (.int k n) ∧ h = some n)
    (H : strK s l h K) : ∃ v : ByteArray, (∀ w, (Instr.sliceAt t (.string s) lo hi none).run P w = .ok (.string v) w) ∧ K v := by
  obtain ⟨h1, h2, h3⟩ := H
  refine ⟨_, fun w => ?_, h3⟩
  rcases hlo with ⟨rfl, rfl⟩ | ⟨k1, n1, rfl, rfl⟩ <;> rcases hhi with ⟨rfl, rfl⟩ | ⟨k2, n2, rfl, rfl⟩
  · simp [Instr.sliceAt, Instr.slice, run_underlying' hu, Instr.sliceBounds]
  · have := h1 _ rfl
    simp [Instr.sliceAt, Instr.slice, run_underlying' hu, Instr.sliceBounds, run_boundIn n2 k2 s.size .sliceAlen this]
  · have h2' := h2 _ rfl
    have : 0 ≤ n1 ∧ n1 ≤ (s.size : Int) := by simp at h2'; omega
    simp [Instr.sliceAt, Instr.slice, run_underlying' hu, Instr.sliceBounds, run_boundIn n1 k1 s.size .sliceB this]
  · have h1' := h1 _ rfl
    have h2' := h2 _ rfl
    have : 0 ≤ n1 ∧ n1 ≤ (n2.toNat : Int) := by simp at h2'; omega
    simp [Instr.sliceAt, Instr.slice, run_underlying' hu, Instr.sliceBounds, run_boundIn n2 k2 s.size .sliceAlen h1', run_boundIn n1 k1 n2.toNat .sliceB this]

theorem fieldOff_spec {s : TypeId} {f n : Nat} (h : fieldOff P s f = some n) : ∃ fs fd m, P.underlying s = some (.struct fs) ∧ fs[f]? = some fd ∧ szOf P fd.type = some (m + 1) ∧ fd.offset = n := by
  unfold fieldOff at h
  split at h
  · rename_i fs hu
    split at h
    · rename_i fd hf
      split at h
      · rename_i m hm
        cases h
        exact ⟨fs, fd, m, hu, hf, hm, rfl⟩
      · cases h
    · cases h
  · cases h

theorem intOpt_spec {env : Env} {lo : Option Operand} {l : Option Int} (h : intOpt env lo = some l) : (lo.map (ev env) = none ∧ l = none) ∨ ∃ k n, lo.map (ev env) = some (.int k n) ∧ l = some n := by
  unfold intOpt at h
  split at h
  · cases h; exact .inl ⟨rfl, rfl⟩
  · rename_i o
    split at h
    · rename_i k n he
      cases h
      exact .inr ⟨k, n, by simp [he], rfl⟩
    · cases h

theorem assertK_sound {t xt : TypeId} {d : TypeDesc} {z : Value} {ty : Ty} {zz : ty.T} {v : Value} {K : Value → Prop} (hd : P.underlying t = some d) (hn : ∀ ms, d ≠ .interface ms) (hz : zeroOf P t = some z) (hzz : un ty z = some zz)
    (h : assertK t ty zz v fun y b => K (.tuple #[val ty y, .bool b])) : ∃ u, (∀ w, (Instr.typeAssert v xt t true).run P w = .ok u w) ∧ K u := by
  have hv := un_eq _ _ _ hzz
  rcases h with ⟨x, rfl, hK⟩ | ⟨h, hK⟩
  · refine ⟨_, fun w => ?_, hK⟩
    simp only [Instr.typeAssert, Sem.run_bind, run_underlying' hd, Result.andThen_ok]
    cases d <;> first | exact absurd rfl (hn _) | simp
  · refine ⟨_, fun w => ?_, hK⟩
    rcases h with rfl | ⟨u, y, rfl, hu⟩
    · simp only [Instr.typeAssert, Sem.run_bind, run_underlying' hd, Result.andThen_ok]
      cases d <;> first | exact absurd rfl (hn _) | simp [run_zero' hz, hv]
    · simp only [Instr.typeAssert, Sem.run_bind, run_underlying' hd, Result.andThen_ok]
      cases d <;> first | exact absurd rfl (hn _) | simp [run_zero' hz, hv, hu]

theorem isIntP_spec {t : TypeId} {k : IntKind} (h : isIntP P t = some k) : P.underlying t = some (.int k) := by
  unfold isIntP at h
  split at h
  · cases h; assumption
  · cases h

theorem pure_sound {o : Oper} {K : Value → Prop} (h : pureK P env o K) : ∃ v, yieldsAny P (ev env) o v ∧ K v := by
  obtain ⟨dst, op, type, pos, after, guard⟩ := o
  unfold pureK at h
  dsimp only at h
  split at h
  · exact ⟨_, fun w => by simp [execOp], h⟩
  · exact ⟨_, fun w => by simp [execOp], h⟩
  · -- pick
    split at h
    · rename_i e; exact ⟨_, fun w => by simp [execOp, e, asBool], h⟩
    · rename_i e; exact ⟨_, fun w => by simp [execOp, e, asBool], h⟩
    · cases h
  · -- nilCheck
    split at h
    · rename_i a e
      obtain ⟨p, rfl, hK⟩ := h
      exact ⟨_, fun w => by simp [execOp, e], hK⟩
    · cases h
  · -- binOp
    obtain ⟨v, hv, hK⟩ := binK_sound h
    exact ⟨v, fun w => by simp only [execOp, Sem.run_bind, hv w, Result.andThen_ok, Sem.run_pure], hK⟩
  · -- unOp
    split at h
    · rename_i e; exact ⟨_, fun w => by simp [execOp, e, Op.unary], h⟩
    · rename_i e; exact ⟨_, fun w => by simp [execOp, e, Op.unary, Op.intArith], h _ rfl⟩
    · rename_i e; exact ⟨_, fun w => by simp [execOp, e, Op.unary, Op.intBits], h _ rfl⟩
    · cases h
  · -- convert
    rename_i s d x
    split at h
    · rename_i k k' n hs hd e
      obtain ⟨d1, hd1⟩ := Option.isSome_iff_exists.1 hs
      have hd2 := isIntP_spec hd
      exact ⟨_, fun w => by simp [execOp, e, convert, run_underlying' hd1, run_underlying' hd2, Conv.intToInt], h _ rfl⟩
    · cases h
  · -- makeInterface
    rename_i t x
    split at h
    · cases h
    · rename_i hi
      refine ⟨_, fun w => ?_, h⟩
      unfold isIfaceP at hi
      cases hu : P.underlying t with
      | none => simp [hu] at hi
      | some d => cases d <;> first | (simp [hu] at hi; done) | simp [execOp, Instr.makeInterface, run_underlying' hu]
  · rename_i fn first captured
    refine ⟨_, fun w => ?_, h⟩
    have e : ∀ xs : Array Operand, (xs.toList.map (ev env)).toArray = xs.map (ev env) := fun xs => by apply Array.ext'; simp
    simp only [execOp, Instr.makeFunc, e]; simp
  · -- fieldAddr
    rename_i s x f
    split at h
    · rename_i n a ho e
      obtain ⟨fs, fd, m, hu, hf, hm, rfl⟩ := fieldOff_spec ho
      exact ⟨_, fun w => by simp [execOp, e, Instr.fieldAt, run_underlying' hu, hf, Instr.sureAddr, fieldPlace, run_sizeOf' hm], h⟩
    · cases h
  · -- field
    rename_i t x f
    split at h
    · rename_i fs cs hu e
      split at h
      · rename_i fd hf
        split at h
        · rename_i v hv
          exact ⟨_, fun w => by simp [execOp, e, Instr.field, run_underlying' hu, hf, asAgg, run_part hv], h⟩
        · cases h
      · cases h
    · cases h
  · -- indexAddr
    rename_i t x i
    split at h
    · rename_i e a len c k n hu e1 e2
      split at h
      · rename_i sz hz
        obtain ⟨p, rfl, h0, h1, hK⟩ := h
        exact ⟨_, fun w => by simp [execOp, e1, e2, Instr.indexAt, asIntOf, run_underlying' hu, h0, h1, run_sizeOf' hz], hK⟩
      · cases h
    · rename_i len e a k n hu e1 e2
      split at h
      · rename_i sz hz
        obtain ⟨h0, h1, hK⟩ := h
        exact ⟨_, fun w => by simp [execOp, e1, e2, Instr.indexAt, asIntOf, run_underlying' hu, h0, h1, run_sizeOf' hz, Instr.sureAddr], hK⟩
      · cases h
    · cases h
  · -- index
    rename_i t x i
    split at h
    · rename_i len e cs k n hu e1 e2
      split at h
      · rename_i sz hz ho
        obtain ⟨h0, h1, y, hy, hK⟩ := h
        exact ⟨_, fun w => by simp [execOp, e1, e2, Instr.index, asIntOf, run_underlying' hu, h0, h1, run_sizeOf' hz, run_part hy], hK⟩
      · cases h
    · rename_i s k n hu e1 e2
      obtain ⟨h0, h1, hK⟩ := h
      exact ⟨_, fun w => by simp [execOp, e1, e2, Instr.index, asIntOf, run_underlying' hu, h0, h1], hK⟩
    · cases h
  · -- slice
    rename_i t x lo hi mx
    split at h
    · rename_i e a len cap l hh hu e1 hl hhi
      split at h
      · rename_i sz hz
        obtain ⟨v, hv, hK⟩ := run_slK hu hz (intOpt_spec hl) (intOpt_spec hhi) h
        exact ⟨_, fun w => by simp [execOp, e1, hv], hK⟩
      · cases h
    · rename_i s l hh hu e1 hl hhi
      obtain ⟨v, hv, hK⟩ := run_strK hu (intOpt_spec hl) (intOpt_spec hhi) h
      exact ⟨_, fun w => by simp [execOp, e1, hv], hK⟩
    · cases h
  · -- extract
    split at h
    · rename_i vs e
      split at h
      · rename_i v hv
        exact ⟨_, fun w => by simp [execOp, e, Instr.extract, hv], h⟩
      · cases h
    · cases h
  · -- build
    rename_i t parts
    split at h
    · rename_i v hv
      refine ⟨v, fun w => ?_, h⟩
      have : buildV P t (parts.map fun (i, x) => (i, ev env x)).toList = some v := by simpa using hv
      simp [execOp, run_build this]
    · cases h
  · -- typeAssert
    rename_i x xt t ok
    split at h
    · cases h
    · rename_i d z hn hd hz ho
      split at h
      · rename_i zz hzz
        obtain ⟨u, hu, hK⟩ := assertK_sound (xt := xt) hd (fun ms e => hn ms e) hz hzz h
        exact ⟨u, fun w => by simp [execOp, hu], hK⟩
      · cases h
    · cases h
  · -- len
    rename_i args argTypes
    split at h
    · rename_i t x ht hx
      split at h
      · rename_i e a n c hu e1
        exact ⟨_, fun w => by simp [execOp, resolve, invoke, builtin, Builtin.len_, ht, hx, run_underlying' hu, e1, goInt], h⟩
      · rename_i s hu e1
        exact ⟨_, fun w => by simp [execOp, resolve, invoke, builtin, Builtin.len_, ht, hx, run_underlying' hu, e1, goInt], h⟩
      · rename_i n e hu
        exact ⟨_, fun w => by simp [execOp, resolve, invoke, builtin, Builtin.len_, ht, hx, run_underlying' hu, goInt], h⟩
      · cases h
    · cases h
  · -- max
    rename_i args argTypes
    split at h
    · rename_i k a k' b e
      refine ⟨_, fun w => ?_, h⟩
      have e' : (args.map (ev env)).toList = [.int k a, .int k' b] := by simpa using e
      have hr : ∀ ats ty, (Builtin.max_ ats ty (args.map (ev env))).run P w = .ok _ w := fun ats ty => by unfold Builtin.max_; rw [e']; simp [Builtin.max2]; rfl
      simp [execOp, resolve, invoke, builtin, hr]
    · rename_i k a k' b k'' c e
      refine ⟨_, fun w => ?_, h⟩
      have e' : (args.map (ev env)).toList = [.int k a, .int k' b, .int k'' c] := by simpa using e
      have hr : ∀ ats ty, (Builtin.max_ ats ty (args.map (ev env))).run P w = .ok _ w := fun ats ty => by unfold Builtin.max_; rw [e']; simp [Builtin.max2]; rfl
      simp [execOp, resolve, invoke, builtin, hr]
    · cases h
  · -- min
    rename_i args argTypes
    split at h
    · rename_i k a k' b e
      refine ⟨_, fun w => ?_, h⟩
      have e' : (args.map (ev env)).toList = [.int k a, .int k' b] := by simpa using e
      have hr : ∀ ats ty, (Builtin.min_ ats ty (args.map (ev env))).run P w = .ok _ w := fun ats ty => by unfold Builtin.min_; rw [e']; simp [Builtin.min2]; rfl
      simp [execOp, resolve, invoke, builtin, hr]
    · rename_i k a k' b k'' c e
      refine ⟨_, fun w => ?_, h⟩
      have e' : (args.map (ev env)).toList = [.int k a, .int k' b, .int k'' c] := by simpa using e
      have hr : ∀ ats ty, (Builtin.min_ ats ty (args.map (ev env))).run P w = .ok _ w := fun ats ty => by unfold Builtin.min_; rw [e']; simp [Builtin.min2]; rfl
      simp [execOp, resolve, invoke, builtin, hr]
    · cases h
  · cases h

end Go.Den
