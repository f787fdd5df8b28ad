/- Texts that belong together, joined: Den. No conditions. -/
import Derived.Tactics
import Derived.Orders
import Derived.Laws.Slices
import Derived.Laws.Small
import Derived.Laws.World
import Derived.KernelRfl
import Derived.RangeFuncRecord
/- A denotation of the translated code as plain propositions over typed values, and its soundness: what it says of a body holds of the body's run. Generic: no statement, no project text. -/
set_option linter.unusedVariables false
set_option linter.unusedSimpArgs false
namespace Go.Den

/-! ### Types of values -/

inductive Ty where
  | int (k : IntKind) | bool | str | ptr | addr | slice | map | iface | func | unit
  | pair (a b : Ty) | st (t : Ty) | tup (t : Ty)

structure Sl where
  a : Option Addr
  len : Nat
  cap : Nat

@[reducible] def Ty.T : Ty → Type
  | .int _ => Int
  | .bool => Bool
  | .str => ByteArray
  | .ptr => Option Addr
  | .addr => Addr
  | .slice => Sl
  | .map => Option Nat
  | .iface => Value
  | .func => Value
  | .unit => Unit
  | .pair a b => a.T × b.T
  | .st t => t.T
  | .tup t => t.T

def cells : (t : Ty) → t.T → List Value
  | .int k, n => [.int k n]
  | .bool, b => [.bool b]
  | .str, s => [.string s]
  | .ptr, a => [.pointer a]
  | .addr, a => [.pointer (some a)]
  | .slice, s => [.slice s.a s.len s.cap]
  | .map, r => [.map r]
  | .iface, v => [v]
  | .func, v => [v]
  | .unit, _ => []
  | .pair a b, x => cells a x.1 ++ cells b x.2
  | .st t, x => cells t x
  | .tup t, x => cells t x

def val1 : (t : Ty) → t.T → Value
  | .int k, n => .int k n
  | .bool, b => .bool b
  | .str, s => .string s
  | .ptr, a => .pointer a
  | .addr, a => .pointer (some a)
  | .slice, s => .slice s.a s.len s.cap
  | .map, r => .map r
  | .iface, v => v
  | .func, v => v
  | .st t, x => .agg (cells t x).toArray
  | .unit, _ => .tuple #[]
  | .pair _ _, _ => .tuple #[]
  | .tup _, _ => .tuple #[]

def vals : (t : Ty) → t.T → List Value
  | .pair a b, x => val1 a x.1 :: vals b x.2
  | .unit, _ => []
  | .int k, n => [val1 (.int k) n]
  | .bool, b => [val1 .bool b]
  | .str, s => [val1 .str s]
  | .ptr, a => [val1 .ptr a]
  | .addr, a => [val1 .addr a]
  | .slice, s => [val1 .slice s]
  | .map, r => [val1 .map r]
  | .iface, v => [val1 .iface v]
  | .func, v => [val1 .func v]
  | .st t, x => [val1 (.st t) x]
  | .tup t, x => [val1 (.tup t) x]

def val : (t : Ty) → t.T → Value
  | .tup t, x => .tuple (vals t x).toArray
  | .int k, n => .int k n
  | .bool, b => .bool b
  | .str, s => .string s
  | .ptr, a => .pointer a
  | .addr, a => .pointer (some a)
  | .slice, s => .slice s.a s.len s.cap
  | .map, r => .map r
  | .iface, v => v
  | .func, v => v
  | .st t, x => .agg (cells t x).toArray
  | .unit, _ => .tuple #[]
  | .pair _ _, _ => .tuple #[]

def Ty.size : Ty → Nat
  | .unit => 0
  | .pair a b => a.size + b.size
  | .st t => t.size
  | .tup t => t.size
  | _ => 1

def Ty.isSt : Ty → Bool
  | .st _ => true
  | _ => false

/-- a value read back at a type of one cell -/
def unB : (t : Ty) → Value → Option t.T
  | .int k, v => match v with
    | .int k' n => if k = k' then some n else none
    | _ => none
  | .bool, v => match v with | .bool b => some b | _ => none
  | .str, v => match v with | .string b => some b | _ => none
  | .ptr, v => match v with | .pointer b => some b | _ => none
  | .addr, v => match v with | .pointer (some b) => some b | _ => none
  | .slice, v => match v with | .slice a l c => some ⟨a, l, c⟩ | _ => none
  | .map, v => match v with | .map b => some b | _ => none
  | .iface, v => some v
  | .func, v => some v
  | .unit, _ => none
  | .pair _ _, _ => none
  | .st _, _ => none
  | .tup _, _ => none

def parseB (t : Ty) (l : List Value) : Option (t.T × List Value) :=
  match l with
  | [] => none
  | v :: r => match unB t v with
    | some x => some (x, r)
    | none => none

def parse : (t : Ty) → List Value → Option (t.T × List Value)
  | .unit, l => some ((), l)
  | .pair a b, l => match parse a l with
    | some (x, l') => match parse b l' with
      | some (y, l'') => some ((x, y), l'')
      | none => none
    | none => none
  | .st t, l => parse t l
  | .tup _, _ => none
  | .int k, l => parseB (.int k) l
  | .bool, l => parseB .bool l
  | .str, l => parseB .str l
  | .ptr, l => parseB .ptr l
  | .addr, l => parseB .addr l
  | .slice, l => parseB .slice l
  | .map, l => parseB .map l
  | .iface, l => match l with | v :: r => some (v, r) | [] => none
  | .func, l => match l with | v :: r => some (v, r) | [] => none

/-- a value read back at a type, no tuple -/
def un1 : (t : Ty) → Value → Option t.T
  | .st t, v => match v with
    | .agg cs => match parse t cs.toList with
      | some (x, []) => some x
      | _ => none
    | _ => none
  | .int k, v => unB (.int k) v
  | .bool, v => unB .bool v
  | .str, v => unB .str v
  | .ptr, v => unB .ptr v
  | .addr, v => unB .addr v
  | .slice, v => unB .slice v
  | .map, v => unB .map v
  | .iface, v => unB .iface v
  | .func, v => unB .func v
  | .unit, _ => none
  | .pair _ _, _ => none
  | .tup _, _ => none

def uns : (t : Ty) → List Value → Option t.T
  | .pair a b, l => match l with
    | v :: r => match un1 a v with
      | some x => match uns b r with
        | some y => some (x, y)
        | none => none
      | none => none
    | [] => none
  | .unit, l => match l with | [] => some () | _ => none
  | .int k, l => match l with | [v] => un1 (.int k) v | _ => none
  | .bool, l => match l with | [v] => un1 .bool v | _ => none
  | .str, l => match l with | [v] => un1 .str v | _ => none
  | .ptr, l => match l with | [v] => un1 .ptr v | _ => none
  | .addr, l => match l with | [v] => un1 .addr v | _ => none
  | .slice, l => match l with | [v] => un1 .slice v | _ => none
  | .map, l => match l with | [v] => un1 .map v | _ => none
  | .iface, l => match l with | [v] => un1 .iface v | _ => none
  | .func, l => match l with | [v] => un1 .func v | _ => none
  | .st t, l => match l with | [v] => un1 (.st t) v | _ => none
  | .tup _, _ => none

def un : (t : Ty) → Value → Option t.T
  | .tup t, v => match v with
    | .tuple vs => uns t vs.toList
    | _ => none
  | .st t, v => un1 (.st t) v
  | .int k, v => unB (.int k) v
  | .bool, v => unB .bool v
  | .str, v => unB .str v
  | .ptr, v => unB .ptr v
  | .addr, v => unB .addr v
  | .slice, v => unB .slice v
  | .map, v => unB .map v
  | .iface, v => unB .iface v
  | .func, v => unB .func v
  | .unit, _ => none
  | .pair _ _, _ => none

theorem unB_eq : ∀ (t : Ty) (v : Value) (x : t.T), unB t v = some x → v = val1 t x ∧ v = val t x ∧ [v] = cells t x ∧ vals t x = [v] := by
  intro t v x h
  cases t <;> simp only [unB] at h <;> (try (cases h)) <;> (try (cases v <;> simp_all [val1, val, cells, vals])) <;> (try simp_all [val1, val, cells, vals])
  case addr a => cases a <;> simp_all [val1, val, cells, vals]
  case slice a l c => cases h; simp

theorem parse_eq : ∀ (t : Ty) (l : List Value) (x : t.T) (r : List Value), parse t l = some (x, r) → l = cells t x ++ r := by
  intro t
  induction t with
  | unit => intro l x r h; simp [parse] at h; simp [cells, h]
  | pair a b iha ihb =>
    intro l x r h
    simp only [parse] at h
    split at h
    · rename_i y l' hy
      split at h
      · rename_i z l'' hz
        simp only [Option.some.injEq, Prod.mk.injEq] at h
        obtain ⟨rfl, rfl⟩ := h
        rw [iha _ _ _ hy, ihb _ _ _ hz]; simp [cells]
      · cases h
    · cases h
  | st t ih => intro l x r h; simp only [parse] at h; rw [ih _ _ _ h]; simp [cells]
  | tup t ih => intro l x r h; simp [parse] at h
  | iface => intro l x r h; cases l <;> simp [parse] at h; obtain ⟨rfl, rfl⟩ := h; simp [cells]
  | func => intro l x r h; cases l <;> simp [parse] at h; obtain ⟨rfl, rfl⟩ := h; simp [cells]
  | _ =>
    intro l x r h
    cases l with
    | nil => simp [parse, parseB] at h
    | cons v l =>
      simp only [parse, parseB] at h
      split at h
      · rename_i y hy
        simp only [Option.some.injEq, Prod.mk.injEq] at h
        obtain ⟨rfl, rfl⟩ := h
        have := (unB_eq _ _ _ hy).2.2.1
        rw [← List.singleton_append, this]
      · cases h

theorem un1_eq (t : Ty) (v : Value) (x : t.T) (h : un1 t v = some x) : v = val1 t x ∧ vals t x = [v] ∧ v = val t x := by
  cases t with
  | st t =>
    simp only [un1] at h
    cases v <;> simp at h
    rename_i cs
    split at h
    · rename_i y hy
      have e := parse_eq _ _ _ _ hy
      simp only [Option.some.injEq] at h
      subst h
      have : cs = (cells t y).toArray := by rw [← Array.toArray_toList (xs := cs), e]; simp
      subst this
      simp [val1, vals, val]
    · cases h
  | unit => simp [un1] at h
  | pair a b => simp [un1] at h
  | tup t => simp [un1] at h
  | _ =>
    simp only [un1] at h
    have := unB_eq _ _ _ h
    exact ⟨this.1, this.2.2.2, this.2.1⟩

theorem uns_eq : ∀ (t : Ty) (l : List Value) (x : t.T), uns t l = some x → l = vals t x := by
  intro t
  induction t with
  | pair a b iha ihb =>
    intro l x h
    cases l with
    | nil => simp [uns] at h
    | cons v r =>
      simp only [uns] at h
      split at h
      · rename_i y hy
        split at h
        · rename_i z hz
          simp only [Option.some.injEq] at h
          subst h
          rw [ihb _ _ hz, (un1_eq _ _ _ hy).1]; simp [vals]
        · cases h
      · cases h
  | unit => intro l x h; cases l <;> simp [uns] at h; simp [vals]
  | tup t ih => intro l x h; simp [uns] at h
  | _ =>
    intro l x h
    match l, h with
    | [], h => simp [uns] at h
    | [v], h => simp only [uns] at h; exact (un1_eq _ _ _ h).2.1.symm
    | _ :: _ :: _, h => simp [uns] at h

theorem un_eq (t : Ty) (v : Value) (x : t.T) (h : un t v = some x) : v = val t x := by
  cases t with
  | tup t =>
    simp only [un] at h
    cases v <;> simp at h
    rename_i vs
    have := uns_eq _ _ _ h
    simp [val, ← this]
  | st t => simp only [un] at h; exact (un1_eq (.st t) _ _ h).2.2
  | unit => simp [un] at h
  | pair a b => simp [un] at h
  | _ => simp only [un] at h; exact (unB_eq _ _ _ h).2.1


/-! ### Frames and memory -/

abbrev Env := Nat → Value

def upd (env : Env) (d : Nat) (v : Value) : Env := fun s => match Nat.beq s d with
  | true => v
  | false => env s
def putE (env : Env) (dst : Option Tmp) (v : Value) : Env := match dst with
  | some d => upd env d v
  | none => env
def ev (env : Env) : Operand → Value
  | .tmp t => env t
  | .const v => v
  | .global g => .pointer (some ⟨g, 0, none⟩)
  | .func f => .func (.func f) #[] #[]

/-- the cells from a on -/
def At (w : World) (a : Addr) (cs : List Value) : Prop := ∀ (i : Nat) (v : Value), cs[i]? = some v → w.cell? (a.add i) = some v
/-- n cells from a on may be written -/
def Wr (w : World) (a : Addr) (n : Nat) : Prop := ∀ i, i < n → (∃ v, w.cell? (a.add i) = some v) ∧ w.frozen? (a.add i) = false
def setCells (w : World) (a : Addr) : Nat → List Value → World
  | _, [] => w
  | i, v :: r => setCells (w.setCell (a.add i) v) a (i + 1) r
def one (v : Value) : Bool := match v with
  | .agg _ => false
  | .tuple _ => false
  | _ => true

/-! ### What the program's tables say -/

def isAggP (P : Program) (t : TypeId) : Bool := match P.underlying t with
  | some (.struct _) => true
  | some (.array _ _) => true
  | _ => false
def chain : List Ty → Ty
  | [] => .unit
  | [t] => t
  | t :: r => .pair t (chain r)
def tyOf (P : Program) : Nat → TypeId → Ty
  | 0, _ => .unit
  | d + 1, t => match P.underlying t with
    | some (.int k) => .int k
    | some .bool => .bool
    | some .string => .str
    | some (.pointer _) => .ptr
    | some (.slice _) => .slice
    | some (.map _ _) => .map
    | some (.interface _) => .iface
    | some (.func _ _ _) => .func
    | some (.struct fs) => .st (chain (fs.toList.map fun f => tyOf P d f.type))
    | some (.array n e) => .st (chain (List.replicate n (tyOf P d e)))
    | some (.tuple ts) => .tup (chain (ts.toList.map (tyOf P d)))
    | _ => .unit
def Ty.plain : Ty → Bool
  | .unit => false
  | .pair _ _ => false
  | .tup _ => false
  | _ => true
/-- a variable of type t takes the cells of ty -/
def okT (P : Program) (t : TypeId) (ty : Ty) : Bool := match P.info? t, P.underlying t with
  | some i, some _ => Nat.beq i.size ty.size && (isAggP P t == ty.isSt) && ty.plain
  | _, _ => false
def szOf (P : Program) (t : TypeId) : Option Nat := match P.info? t with
  | some i => some i.size
  | none => none
def zeroOf (P : Program) (t : TypeId) : Option Value := match P.info? t with
  | some i => i.zero
  | none => none
def fieldOff (P : Program) (s : TypeId) (f : Nat) : Option Nat := match P.underlying s with
  | some (.struct fs) => match fs[f]? with
    | some fd => match szOf P fd.type with
      | some (_ + 1) => some fd.offset
      | _ => none
    | none => none
  | _ => none
def isIntP (P : Program) (t : TypeId) : Option IntKind := match P.underlying t with
  | some (.int k) => some k
  | _ => none
def isIfcP (P : Program) (t : TypeId) : Bool := match P.underlying t with
  | some (.interface _) => true
  | _ => false
def sliceElem (P : Program) (t : TypeId) : Option TypeId := match P.underlying t with
  | some (.slice e) => some e
  | _ => none
def partV (P : Program) (t : TypeId) (cs : Array Value) (off : Nat) : Option Value := match P.underlying t with
  | some _ => match isAggP P t with
    | true => match szOf P t with
      | some n => some (.agg (cs.extract off (off + n)))
      | none => none
    | false => cs[off]?
  | none => none
def buildV (P : Program) (t : TypeId) (parts : List (Nat × Value)) : Option Value := match zeroOf P t, P.underlying t with
  | some z, some (.struct fs) =>
    match Instr.fill (fun i => (fs[i]?).bind fun f => (szOf P f.type).map fun n => (f.offset, n)) z.cells parts, fs.toList.all fun f => (szOf P f.type).isSome with
    | some cs, true => some (.agg cs)
    | _, _ => none
  | some z, some (.array _ e) => match szOf P e with
    | some n => match Instr.fill (fun i => some (i * n, n)) z.cells parts with
      | some cs => some (.agg cs)
      | none => none
    | none => none
  | _, _ => none
def bodyful (P : Program) (f : FuncId) : Bool := match P.funcs[f]? with
  | some fn => (fn.name != "runtime.NumGoroutine") && fn.body.isSome
  | none => false
def isIfaceP (P : Program) (t : TypeId) : Bool := match P.underlying t with
  | some (.interface _) => true
  | none => true
  | _ => false

/-! ### Operations that only reckon -/

def arith (k : IntKind) (n : Int) (K : Int → Prop) : Prop := ∀ m, m = k.wrap n → K m
def letZ (n : Int) (K : Int → Prop) : Prop := ∀ m, m = n → K m
def isNilI (v : Value) : Bool := match v with
  | .nilIface => true
  | _ => false
def isIfc (v : Value) : Bool := match v with
  | .nilIface => true
  | .iface _ _ => true
  | _ => false
/-- a test whose run is told -/
def testK (P : Program) (s : Sem Value) (K : Bool → Prop) : Prop := ∃ b, (∀ w, s.run P w = .ok (.bool b) w) ∧ K b
def nonNil {α : Type} (a : Option α) (K : α → Prop) : Prop := ∃ p, a = some p ∧ K p
def idxK (a : Option Addr) (len : Nat) (i : Int) (sz : Nat) (K : Addr → Prop) : Prop :=
  ∃ p, a = some p ∧ 0 ≤ i ∧ i < len ∧ K (p.add (i.toNat * sz))
def idxArr (p : Addr) (len : Nat) (i : Int) (sz : Nat) (K : Addr → Prop) : Prop := 0 ≤ i ∧ i < len ∧ K (p.add (i.toNat * sz))
def nilIfcK (v : Value) (K : Bool → Prop) : Prop := isIfc v = true ∧ K (isNilI v)
/-- x.(T) with ok, T concrete -/
def assertK (t : TypeId) (ty : Ty) (z : ty.T) (v : Value) (K : ty.T → Bool → Prop) : Prop :=
  (∃ x, v = .iface t (val ty x) ∧ K x true) ∨ ((v = .nilIface ∨ ∃ u y, v = .iface u y ∧ u ≠ t) ∧ K z false)

def intBin (op : BinOp) (k : IntKind) (a b : Int) (K : Value → Prop) : Prop := match op with
  | .add => arith k (a + b) fun n => K (.int k n)
  | .sub => arith k (a - b) fun n => K (.int k n)
  | .mul => arith k (a * b) fun n => K (.int k n)
  | .quo => b ≠ 0 ∧ arith k (a.tdiv b) fun n => K (.int k n)
  | .rem => b ≠ 0 ∧ letZ (a.tmod b) fun n => K (.int k n)
  | .and => arith k (BitVec.ofInt k.bits a &&& BitVec.ofInt k.bits b).toNat fun n => K (.int k n)
  | .or => arith k (BitVec.ofInt k.bits a ||| BitVec.ofInt k.bits b).toNat fun n => K (.int k n)
  | .xor => arith k (BitVec.ofInt k.bits a ^^^ BitVec.ofInt k.bits b).toNat fun n => K (.int k n)
  | .andNot => arith k (BitVec.ofInt k.bits a &&& ~~~BitVec.ofInt k.bits b).toNat fun n => K (.int k n)
  | .eql => K (.bool (a == b))
  | .neq => K (.bool (a != b))
  | .lss => K (.bool (decide (a < b)))
  | .leq => K (.bool (decide (a ≤ b)))
  | .gtr => K (.bool (decide (b < a)))
  | .geq => K (.bool (decide (b ≤ a)))
  | _ => False
def binK (P : Program) (op : BinOp) (t : TypeId) (xo yo : Operand) (x y : Value) (K : Value → Prop) : Prop := match y with
  | .nilIface => match yo, op, P.underlying t with
    | .const _, .eql, some (.interface _) => nilIfcK x fun b => K (.bool b)
    | .const _, .neq, some (.interface _) => nilIfcK x fun b => K (.bool (!b))
    | _, _, _ => False
  | .pointer none => match op, x, P.underlying t with
    | .eql, .pointer a, some (.pointer _) => K (.bool a.isNone)
    | .neq, .pointer a, some (.pointer _) => K (.bool (!a.isNone))
    | _, _, _ => False
  | .int k' b => match x with
    | .int k a => match op with
      | .shl => 0 ≤ b ∧ arith k (a * 2 ^ min b.toNat k.bits) fun n => K (.int k n)
      | .shr => 0 ≤ b ∧ letZ (a.fdiv (2 ^ min b.toNat k.bits)) fun n => K (.int k n)
      | _ => match decide (k = k') with
        | true => intBin op k a b K
        | false => False
    | _ => False
  | .bool b => match op, x, P.underlying t with
    | .eql, .bool a, some .bool => K (.bool (a == b))
    | .neq, .bool a, some .bool => K (.bool (!(a == b)))
    | _, _, _ => False
  | .slice none _ _ => match op, x, P.underlying t with
    | .eql, .slice a _ _, some (.slice _) => K (.bool a.isNone)
    | .neq, .slice a _ _, some (.slice _) => K (.bool (!a.isNone))
    | _, _, _ => False
  | .map none => match op, x, P.underlying t with
    | .eql, .map a, some (.map _ _) => K (.bool a.isNone)
    | .neq, .map a, some (.map _ _) => K (.bool (!a.isNone))
    | _, _, _ => False
  | .string b => match op, x with
    | .eql, .string a => K (.bool (a.toList == b.toList))
    | .neq, .string a => K (.bool (!(a.toList == b.toList)))
    | .lss, .string a => K (.bool (Op.bytesLess a.toList b.toList))
    | .add, .string a => ((a.size + b.size : Nat) : Int) ≤ 9223372036854775807 ∧ K (.string (a ++ b))
    | _, _ => False
  | .agg ys => match x with
    | .agg xs => testK P (do eqGuard op t xo yo (.agg xs) (.agg ys); binOp op t (.agg xs) (.agg ys)) fun b => K (.bool b)
    | _ => False
  | _ => False

def slK (sz : Nat) (a : Option Addr) (len cap : Nat) (lo hi : Option Int) (K : Sl → Prop) : Prop :=
  (∀ h, hi = some h → 0 ≤ h ∧ h ≤ cap) ∧ (∀ l, lo = some l → 0 ≤ l ∧ l.toNat ≤ (match hi with | some h => h.toNat | none => len)) ∧
  K (⟨(if cap = (match lo with | some l => l.toNat | none => 0) then a else a.map (·.add ((match lo with | some l => l.toNat | none => 0) * sz))),
    ((match hi with | some h => h.toNat | none => len) - (match lo with | some l => l.toNat | none => 0)), (cap - (match lo with | some l => l.toNat | none => 0))⟩)
/-- a string's part -/
def strK (s : ByteArray) (lo hi : Option Int) (K : ByteArray → Prop) : Prop :=
  (∀ h, hi = some h → 0 ≤ h ∧ h ≤ s.size) ∧ (∀ l, lo = some l → 0 ≤ l ∧ l.toNat ≤ (match hi with | some h => h.toNat | none => s.size)) ∧
  K (s.extract (match lo with | some l => l.toNat | none => 0) (match hi with | some h => h.toNat | none => s.size))
def intOpt (env : Env) : Option Operand → Option (Option Int)
  | none => some none
  | some o => match ev env o with
    | .int _ n => some (some n)
    | _ => none

def pureK (P : Program) (env : Env) (o : Oper) (K : Value → Prop) : Prop := match o.op with
  | .move x => K (ev env x)
  | .assign x => K (ev env x)
  | .pick c a b => match ev env c with
    | .bool true => K (ev env a)
    | .bool false => K (ev env b)
    | _ => False
  | .nilCheck x => match ev env x with
    | .pointer a => nonNil a fun p => K (.pointer (some p))
    | _ => False
  | .binOp op t x y _ => binK P op t x y (ev env x) (ev env y) K
  | .unOp op _ x => match op, ev env x with
    | .not, .bool b => K (.bool (!b))
    | .neg, .int k n => arith k (0 - n) fun m => K (.int k m)
    | .xor, .int k n => arith k (BitVec.ofInt k.bits (if k.signed then -1 else k.max) ^^^ BitVec.ofInt k.bits n).toNat fun m => K (.int k m)
    | _, _ => False
  | .convert s d x => match (P.underlying s).isSome, isIntP P d, ev env x with
    | true, some k, .int _ n => arith k n fun m => K (.int k m)
    | _, _, _ => False
  | .makeInterface t x => match isIfaceP P t with
    | true => False
    | false => K (.iface t (ev env x))
  | .makeFunc fn first captured => K (.func fn (first.toList.map (ev env)).toArray (captured.toList.map (ev env)).toArray)
  | .fieldAddr s x f => match fieldOff P s f, ev env x with
    | some n, .pointer (some a) => K (.pointer (some (a.add n)))
    | _, _ => False
  | .field t x f => match P.underlying t, ev env x with
    | some (.struct fs), .agg cs => match fs[f]? with
      | some fd => match partV P fd.type cs fd.offset with
        | some v => K v
        | none => False
      | none => False
    | _, _ => False
  | .indexAddr t x i => match P.underlying t, ev env x, ev env i with
    | some (.slice e), .slice a len _, .int _ n => match szOf P e with
      | some sz => idxK a len n sz fun p => K (.pointer (some p))
      | none => False
    | some (.array len e), .pointer (some a), .int _ n => match szOf P e with
      | some sz => idxArr a len n sz fun p => K (.pointer (some p))
      | none => False
    | _, _, _ => False
  | .index t x i => match P.underlying t, ev env x, ev env i with
    | some (.array len e), .agg cs, .int _ n => match szOf P e, okT P e (tyOf P 9 e) with
      | some sz, true => 0 ≤ n ∧ n < len ∧ ∃ y : (tyOf P 9 e).T, partV P e cs (n.toNat * sz) = some (val (tyOf P 9 e) y) ∧ K (val (tyOf P 9 e) y)
      | _, _ => False
    | some .string, .string s, .int _ n => 0 ≤ n ∧ ∃ h : n.toNat < s.size, K (.int .u8 (s[n.toNat].toNat))
    | _, _, _ => False
  | .slice t x lo hi mx => match mx, P.underlying t, ev env x, intOpt env lo, intOpt env hi with
    | none, some (.slice e), .slice a len cap, some l, some h => match szOf P e with
      | some sz => slK sz a len cap l h fun s => K (.slice s.a s.len s.cap)
      | none => False
    | none, some .string, .string s, some l, some h => strK s l h fun s => K (.string s)
    | _, _, _, _, _ => False
  | .extract x i => match ev env x with
    | .tuple vs => match vs[i]? with
      | some v => K v
      | none => False
    | _ => False
  | .build t parts => match buildV P t (parts.toList.map fun p => (p.1, ev env p.2)) with
    | some v => K v
    | none => False
  | .typeAssert x xt t ok => match ok, P.underlying t, zeroOf P t, okT P t (tyOf P 9 t) with
    | true, some (.interface _), _, _ => False
    | true, some _, some z, true => match un (tyOf P 9 t) z with
      | some zz => assertK t (tyOf P 9 t) zz (ev env x) fun y b => K (.tuple #[val (tyOf P 9 t) y, .bool b])
      | none => False
    | _, _, _, _ => False
  | .call { callee := .builtin .len, args, argTypes } => match argTypes[0]?, args[0]? with
    | some t, some x => match P.underlying t, ev env x with
      | some (.slice _), .slice _ n _ => K (.int .i64 n)
      | some .string, .string s => K (.int .i64 s.size)
      | some (.array n _), _ => K (.int .i64 n)
      | _, _ => False
    | _, _ => False
  | .call { callee := .builtin .max, args, .. } => match args.toList.map (ev env) with
    | [.int k a, .int _ b] => K (.int k (if a < b then b else a))
    | [.int k a, .int _ b, .int _ c] => K (.int k (if (if a < b then b else a) < c then c else (if a < b then b else a)))
    | _ => False
  | .call { callee := .builtin .min, args, .. } => match args.toList.map (ev env) with
    | [.int k a, .int _ b] => K (.int k (if b < a then b else a))
    | [.int k a, .int _ b, .int _ c] => K (.int k (if c < (if b < a then b else a) then c else (if b < a then b else a)))
    | _ => False
  | _ => False

/-! ### Operations that read -/

def Lk2 (P : Program) (t : TypeId) (ty : Ty) (m k : Value) (x : ty.T) (b : Bool) (w : World) : Prop := (Instr.lookup t m k true).run P w = .ok (.tuple #[val ty x, .bool b]) w
def Lk1 (P : Program) (t : TypeId) (ty : Ty) (m k : Value) (x : ty.T) (w : World) : Prop := (Instr.lookup t m k false).run P w = .ok (val ty x) w
def mapLen (w : World) (m : Option Nat) (n : Nat) : Prop := match m with
  | none => n = 0
  | some r => ∃ es c, w.heap[r]? = some (.map es c) ∧ n = es.size
def readK (P : Program) (env : Env) (o : Oper) (w : World) (K : Value → (World → Prop) → Prop) : Prop := match o.op with
  | .load t a => match okT P t (tyOf P 9 t), ev env a with
    | true, .pointer (some p) => ∃ x : (tyOf P 9 t).T, At w p (cells (tyOf P 9 t) x) ∧ K (val (tyOf P 9 t) x) (fun w' => At w' p (cells (tyOf P 9 t) x))
    | _, _ => False
  | .lookup t m k ok => match P.underlying t, ok with
    | some (.map _ e), true => ∃ (x : (tyOf P 9 e).T) (b : Bool), Lk2 P t (tyOf P 9 e) (ev env m) (ev env k) x b w ∧
        K (.tuple #[val (tyOf P 9 e) x, .bool b]) (fun w' => Lk2 P t (tyOf P 9 e) (ev env m) (ev env k) x b w')
    | some (.map _ e), false => ∃ x : (tyOf P 9 e).T, Lk1 P t (tyOf P 9 e) (ev env m) (ev env k) x w ∧
        K (val (tyOf P 9 e) x) (fun w' => Lk1 P t (tyOf P 9 e) (ev env m) (ev env k) x w')
    | _, _ => False
  | .call { callee := .builtin .len, args, argTypes } => match argTypes[0]?, args[0]? with
    | some t, some x => match P.underlying t, ev env x with
      | some (.map _ _), .map m => ∃ n, mapLen w m n ∧ K (.int .i64 n) (fun w' => mapLen w' m n)
      | _, _ => False
    | _, _ => False
  | _ => False

/-! ### Operations that act -/

def allocK (o : Obj) (w : World) (K : Addr → World → Prop) : Prop := K ⟨w.heap.size, 0, none⟩ (w.alloc o)
def stK (w : World) (p : Addr) (cs : List Value) (K : World → Prop) : Prop := Wr w p cs.length ∧ cs.all one = true ∧ K (setCells w p 0 cs)
def callP (P : Program) (f : FuncId) (args : Array Value) (ty : Ty) (w : World) (K : ty.T → World → Prop) : Prop :=
  Calls P f args w fun e w' => ∃ r : ty.T, e = .returned (val ty r) ∧ K r w'
/-- the fences that let everything in: of a function's frame (none), of a round's (some l) -/
def FW (ρ : Option Nat) : Fence := { Fence.wide with round := ρ }
/-- a call of a function value -/
def callV (P : Program) (v : Value) (args : List Value) (ty : Ty) (w : World) (K : ty.T → World → Prop) : Prop := match v with
  | .func (.func g) first captured => match bodyful P g with
    | true => callP P g (first.toList ++ args ++ captured.toList).toArray ty w K
    | false => False
  | .func (.yield l) first _ => ∃ fn tmps assign body, (Instr.yield l (first.toList ++ args).toArray).run P w = .ok (.round l fn tmps assign body) w ∧
      RoundIn Fence.wide 0 P l fn tmps assign body w fun e w' => ∃ r : ty.T, e = .returned (val ty r) ∧ K r w'
  | _ => False
def zrow (zs : Array Value) (n : Nat) : Array Value := ((List.range n).map fun i => zs[i % zs.size]!).toArray
/-- the cells that a slice, or a string, hands over -/
def src (w : World) (v : Value) (n : Nat) (cs : List Value) : Prop := match v with
  | .slice (some p) _ _ => cs.length = n ∧ At w p cs
  | .slice none _ _ => cs = []
  | .string s => cs = s.data.toList.map (fun b => Value.int .u8 b.toNat)
  | _ => False
def appK (E : TypeId) (sz by_ : Nat) (zs : Array Value) (base : Option Addr) (len cap : Nat) (x : Value) (n : Nat) (w : World) (K : Sl → World → Prop) : Prop :=
  ∃ cs, src w x (n * sz) cs ∧ cs.all one = true ∧
    (len + n ≤ cap → (∃ p, base = some p ∧ Wr w (p.add (len * sz)) cs.length ∧ K ⟨some p, len + n, cap⟩ (setCells w (p.add (len * sz)) 0 cs)) ∨ (base = none ∧ K ⟨none, len + n, cap⟩ w)) ∧
    (cap < len + n → (len + n : Nat) ≤ 9223372036854775807 ∧ Builtin.nextslicecap (len + n) cap * by_ ≤ 281474976710656 ∧ by_ ≠ 0 ∧ ∃ os, src w (.slice base len cap) (len * sz) os ∧
      ∀ c, len + n ≤ c → K ⟨some ⟨w.heap.size, 0, none⟩, len + n, c⟩ ((w.drew).alloc (.cells ((os ++ cs).toArray ++ zrow zs ((c - (len + n)) * zs.size)) E)))
def runK (P : Program) (ty : Ty) (s : Sem Value) (w : World) (K : ty.T → World → Prop) : Prop := ∃ x w', s.run P w = .ok (val ty x) w' ∧ K x w'
def runU (P : Program) (s : Sem Unit) (w : World) (K : World → Prop) : Prop := ∃ w', s.run P w = .ok () w' ∧ K w'

def gd (b : Bool) (A B : Prop) : Prop := match b with
  | true => A
  | false => B
theorem gd_left {b : Bool} {A B : Prop} (h : gd b A B) (e : b = true) : A := by subst e; exact h
theorem gd_right {b : Bool} {A B : Prop} (h : gd b A B) (e : b = false) : B := by subst e; exact h

/-- which types a map's keys and values have, where an entry is read; none: numbers of 64 bits, and any value -/
class EntTys where
  ty : Oper → Option (Ty × Ty)
variable [EntTys]

def actK (P : Program) (env : Env) (o : Oper) (w : World) (K : Value → World → Prop) : Prop := match o.op with
  | .alloc t => match zeroOf P t with
    | some z => allocK (.cells z.cells t) w fun a w' => K (.pointer (some a)) w'
    | none => False
  | .box t x => allocK (.cells (ev env x).cells t) w fun a w' => K (.pointer (some a)) w'
  | .store t a x => match ev env a, szOf P t with
    | .pointer (some p), some n => match Nat.beq (ev env x).cells.size n with
      | true => stK w p (ev env x).cells.toList fun w' => K undef w'
      | false => False
    | _, _ => False
  | .buildSlice t len parts => match sliceElem P t with
    | some e => match szOf P e, zeroOf P e with
      | some sz, some z => match isIfcP P e with
        | true => match Nat.ble (len * sz) 16777216 with
          | true => ∃ cs : Array Value, Instr.fill (fun i => some (i * sz, sz)) (zrow (if len * sz = 0 then #[] else z.cells) (len * sz)) (parts.toList.map fun p => (p.1, ev env p.2)) = some cs ∧ allocK (.cells cs e) w fun a w' => K (.slice (some a) len len) w'
          | false => False
        | false => match Nat.ble (len * sz) 16777216, Instr.fill (fun i => some (i * sz, sz)) (zrow (if len * sz = 0 then #[] else z.cells) (len * sz)) (parts.toList.map fun p => (p.1, ev env p.2)) with
          | true, some cs => allocK (.cells cs e) w fun a w' => K (.slice (some a) len len) w'
          | _, _ => False
      | _, _ => False
    | none => False
  | .makeMap t r => match r with
    | none => allocK (.map #[] 0) w fun a w' => K (.map (some a.block)) w'
    | some x => match P.underlying t, ev env x with
      | some (.map _ _), .int _ _ => allocK (.map #[] 0) w fun a w' => K (.map (some a.block)) w'
      | _, _ => False
  | .makeSlice t l c => match sliceElem P t, ev env l, ev env c with
    | some e, .int .i64 l, .int .i64 c => match P.info? e with
      | some i => match i.zero with
        | some z => 0 ≤ l ∧ l ≤ c ∧ c ≤ 9223372036854775807 ∧ i.bytes * c ≤ 281474976710656 ∧ allocK (.cells (zrow z.cells (c.toNat * i.size)) e) w fun a w' => K (.slice (some a) l.toNat c.toNat) w'
        | none => False
      | none => False
    | _, _, _ => False
  | .mapUpdate t m k x => runU P (Instr.mapUpdate t (ev env m) (ev env k) (ev env x)) w fun w' => K undef w'
  | .insert t m k x => runU P (Instr.mapUpdate t (ev env m) (ev env k) (ev env x)) w fun w' => K undef w'
  | .convert s d x => runK P (tyOf P 9 d) (convert s d (ev env x)) w fun x w' => K (val _ x) w'
  | .range t x => runK P .addr (Instr.range t (ev env x)) w fun x w' => K (val .addr x) w'
  | .next it isStr => ∃ (b : Bool) (vs : List Value) (w' : World), (Instr.next (ev env it) isStr o.type).run P w = .ok (.tuple (Value.bool b :: vs).toArray) w' ∧ K (.tuple (Value.bool b :: vs).toArray) w'
  | .entry it => match EntTys.ty o with
    | some kv => ∃ (k : kv.1.T) (v : kv.2.T) (w' : World), (Instr.entry (ev env it)).run P w = .ok (.tuple #[val kv.1 k, val kv.2 v]) w' ∧ K (.tuple #[val kv.1 k, val kv.2 v]) w'
    | none => ∃ (k : Int) (v : Value) (w' : World), (Instr.entry (ev env it)).run P w = .ok (.tuple #[.int .i64 k, v]) w' ∧ K (.tuple #[.int .i64 k, v]) w'
  | .call { callee := .value f, args, .. } => callV P (ev env f) (args.toList.map (ev env)) (tyOf P 9 o.type) w fun r w' => K (val (tyOf P 9 o.type) r) w'
  | .call { callee := .builtin .append, args, argTypes } => match argTypes[0]?, argTypes[1]?, args[0]?, args[1]? with
    | some t, some t2, some a, some b => match sliceElem P t, (P.underlying t2).isSome, isIntP P t2, ev env a with
      | some e, true, none, .slice base len cap => match P.info? e with
        | some i => match i.zero with
          | some z => match ev env b with
            | .slice b2 n c2 => appK e i.size i.bytes z.cells base len cap (.slice b2 n c2) n w fun s w' => K (.slice s.a s.len s.cap) w'
            | .string s => appK e i.size i.bytes z.cells base len cap (.string s) s.size w fun r w' => K (.slice r.a r.len r.cap) w'
            | _ => False
          | none => False
        | none => False
      | _, _, _, _ => False
    | _, _, _, _ => False
  | .call { callee := .builtin .copy, args, argTypes } => runK P (.int .i64) (Builtin.copy_ argTypes o.type (args.toList.map (ev env)).toArray) w fun x w' => K (val (.int .i64) x) w'
  | .call { callee := .builtin .delete, args, argTypes } => runK P (.tup .unit) (Builtin.delete_ argTypes o.type (args.toList.map (ev env)).toArray) w fun x w' => K (val (.tup .unit) x) w'
  | .call { callee := .builtin .clear, args, argTypes } => runK P (.tup .unit) (Builtin.clear_ argTypes o.type (args.toList.map (ev env)).toArray) w fun x w' => K (val (.tup .unit) x) w'
  | _ => False

inductive Kind where
  | pure | read | act
  deriving DecidableEq

def isMapP (P : Program) (t : TypeId) : Bool := match P.underlying t with
  | some (.map _ _) => true
  | _ => false
def kindOf (P : Program) (o : Oper) : Kind := match o.op with
  | .load _ _ => .read
  | .lookup _ _ _ _ => .read
  | .call { callee := .builtin .len, argTypes, .. } => match argTypes[0]? with
    | some t => match isMapP P t with | true => .read | false => .pure
    | none => .pure
  | .call { callee := .builtin .max, .. } => .pure
  | .call { callee := .builtin .min, .. } => .pure
  | .call _ => .act
  | .alloc _ => .act
  | .box _ _ => .act
  | .store _ _ _ => .act
  | .buildSlice _ _ _ => .act
  | .makeMap _ _ => .act
  | .makeSlice _ _ _ => .act
  | .mapUpdate _ _ _ _ => .act
  | .insert _ _ _ _ => .act
  | .range _ _ => .act
  | .next _ _ => .act
  | .entry _ => .act
  | .convert _ d _ => match isIntP P d with
    | some _ => .pure
    | none => .act
  | _ => .pure


/-! ### Regions and code -/

def guardK (ops : Array Oper) (known : List Nat) (o : Oper) (env : Env) (A B : List Nat → Env → Prop) : Prop := match o.guard with
  | none => A known env
  | some (g, want) => match (ops[g]?).bind (·.dst) with
    | none => False
    | some d => match known.contains g with
      | true => match env d with
        | .bool true => (match want with | true => A known env | false => B known env)
        | .bool false => (match want with | true => B known env | false => A known env)
        | .tuple _ => B known env
        | _ => False
      | false => match env d with
        | .bool b => match want with
          | true => gd b (A (g :: known) (upd env d (.bool true))) (B (g :: known) (upd env d (.bool false)))
          | false => gd b (B (g :: known) (upd env d (.bool true))) (A (g :: known) (upd env d (.bool false)))
        | .tuple _ => B known env
        | _ => False

def opsF (P : Program) (ops : Array Oper) (K : Env → World → Prop) : List Oper → List Nat → Env → World → Prop
  | [], _, env, w => K env w
  | o :: r, known, env, w => guardK ops known o env
      (fun known env => match kindOf P o with
        | .pure => pureK P env o fun v => opsF P ops K r known (putE env o.dst v) w
        | .read => readK P env o w fun v _ => opsF P ops K r known (putE env o.dst v) w
        | .act => actK P env o w fun v w' => opsF P ops K r known (putE env o.dst v) w')
      (fun known env => opsF P ops K r known (putE env o.dst undef) w)

def bindsOn (o : Oper) : List Nat := (o.after.toList.filter (Region.binds .any)).map (·.on)
def masks : List Oper → List Nat → List Nat
  | [], acc => acc
  | o :: r, acc => masks r (acc ++ [(bindsOn o).foldl (fun m e => m ||| (1 <<< e) ||| acc.getD e 0) 0])
def bit (m : Nat) (i : Nat) : Bool := m.testBit i
/-- what may come up where the operations of c have -/
def rdyOf (ops : List Oper) (c : Nat) : List Nat := (List.range ops.length).filter fun i => !bit c i && (match ops[i]? with
  | some o => (bindsOn o).all (bit c)
  | none => false)
def quietIn (P : Program) (ops : List Oper) (l : List Nat) : Option Nat := l.find? fun i => match ops[i]? with
  | some o => !decide (kindOf P o = .act)
  | none => false
def andL : List Nat → (Nat → Prop) → Prop
  | [], _ => True
  | [i], F => F i
  | i :: j :: r, F => F i ∧ andL (j :: r) F
def pendOK (ms : List Nat) (i : Nat) (w : World) (R : Prop) : List (Nat × (World → Prop)) → Prop
  | [] => R
  | (j, c) :: r => match bit (ms.getD i 0) j with
    | true => pendOK ms i w R r
    | false => c w ∧ pendOK ms i w R r
/-- operations that only reckon or read come first, an acting one only where nothing else may come up; of several such, each -/
def drawF (P : Program) (ops : Array Oper) (ms : List Nat) (K : Env → World → Prop) : Nat → Nat → List Nat → Env → World → List (Nat × (World → Prop)) → Prop
  | 0, _, _, _, _, _ => False
  | f + 1, c, known, env, w, pend => match quietIn P ops.toList (rdyOf ops.toList c) with
    | some i => match ops[i]? with
      | none => False
      | some o => guardK ops known o env
        (fun known env => match kindOf P o with
          | .pure => pureK P env o fun v => drawF P ops ms K f (c ||| (1 <<< i)) known (putE env o.dst v) w pend
          | .read => readK P env o w fun v cnd => drawF P ops ms K f (c ||| (1 <<< i)) known (putE env o.dst v) w ((i, cnd) :: pend)
          | .act => False)
        (fun known env => drawF P ops ms K f (c ||| (1 <<< i)) known (putE env o.dst undef) w pend)
    | none => match rdyOf ops.toList c with
      | [] => K env w
      | l => andL l fun i => match ops[i]? with
        | none => False
        | some o => guardK ops known o env
          (fun known env => actK P env o w fun v w' => pendOK ms i w' (drawF P ops ms K f (c ||| (1 <<< i)) known (putE env o.dst v) w' (pend.filter fun x => !bit (ms.getD i 0) x.1)) pend)
          (fun known env => drawF P ops ms K f (c ||| (1 <<< i)) known (putE env o.dst undef) w pend)

def drawK (w : World) (K : World → Prop) : Prop := K w.drew

abbrev Live := List (Nat × Ty)
@[reducible] def LT : Live → Type
  | [] => Unit
  | x :: r => x.2.T × LT r
def ovr : (L : Live) → LT L → Env → Env
  | [], _, e => e
  | (s, t) :: r, x, e => upd (ovr r x.2 e) s (val t x.1)
def rd : (L : Live) → Env → (LT L → Prop) → Prop
  | [], _, K => K ()
  | (s, t) :: r, env, K => match un t (env s) with
    | some x => rd r env fun xs => K (x, xs)
    | none => False
def havoc (ds : List Nat) (junk : Env) (env : Env) : Env := fun s => match ds.any (Nat.beq s) with
  | true => junk s
  | false => env s
def JoinP {X : Type} (A : (X → World → Prop) → Prop) (B : X → World → Prop) : Prop := ∃ R, A R ∧ ∀ x w, R x w → B x w
def LoopP {X : Type} (x₀ : X) (w₀ : World) (body : (X → World → Prop) → X → World → Prop) : Prop :=
  ∃ (I : X → World → Prop) (μ : X → World → Nat), I x₀ w₀ ∧ ∀ x w, I x w → body (fun x' w' => I x' w' ∧ μ x' w' < μ x w) x w

def dsts : Code → List Nat
  | .region _ ops _ => ops.toList.filterMap (·.dst)
  | .seq a b => dsts a ++ dsts b
  | .cond _ a b => dsts a ++ dsts b
  | .block _ a => dsts a
  | .loop a => dsts a
  | .scope a => dsts a
  | .rangeFunc _ ps a b => ps.toList ++ dsts a ++ dsts b
  | _ => []
def firstId : Code → Nat
  | .region id _ _ => id
  | .seq a b => match Nat.beq (firstId a) 100000 with
    | true => 200000 + firstId b
    | false => firstId a
  | .cond _ a b => match Nat.beq (firstId a) 100000 with
    | true => firstId b
    | false => firstId a
  | .block _ a => firstId a
  | .loop a => firstId a
  | .scope a => firstId a
  | .rangeFunc _ _ a _ => firstId a
  | _ => 100000
def annOf (anns : List (Nat × Live)) (k : Nat) : Option Live := match anns with
  | [] => none
  | x :: r => match Nat.beq x.1 k with
    | true => some x.2
    | false => annOf r k

/-! ### A range over a function -/
/-- a loop's record in a state, with a jump pending -/
def recS (r : Loop) (st : LoopState) (j : Option Code) : Loop := { r with state := st, pending := j }
/-- a round begins -/
def busyK (l : Nat) (r : Loop) (w : World) (K : World → Prop) : Prop := w.heap[l]? = some (.loop (recS r .ready none)) ∧ K (w.putObj l (.loop (recS r .busy none)))
/-- a round ends -/
def endK (l : Nat) (r : Loop) (j : Option Code) (w : World) (K : Bool → World → Prop) : Prop :=
  w.heap[l]? = some (.loop (recS r .busy none)) ∧ K j.isNone (w.putObj l (.loop (recS r (if j.isNone then .ready else .done) j)))
def jumpK (j : Option Code) (A B : Prop) : Prop := match j with
  | none => A
  | some .ret => B
  | _ => False
/-- the statement: v is called with yield; B: a round, on yield's arguments; Q: behind the loop, the record at l shut -/
def RangeP (P : Program) (v : Value) (w : World) (X : Type) (vs : X → List Value) (B : Nat → Loop → X → World → (Bool → World → Prop) → Prop) (Q : Option Code → World → Prop) : Prop :=
  ∃ gf first captured, v = .func (.func gf) first captured ∧ bodyful P gf = true ∧ ∀ r : Loop,
    (∀ (x : X) (w' : World) (K : Bool → World → Prop), w'.heap[w.heap.size + 1]? = some (.loop (recS r .ready none)) → B (w.heap.size + 1) r x w' K → callV P (.func (.yield (w.heap.size + 1)) #[] #[]) (vs x) .bool w' K) →
    callP P gf (first.toList ++ [Value.func (.yield (w.heap.size + 1)) #[] #[]] ++ captured.toList).toArray (.tup .unit) ((w.alloc (.deferred (some []))).alloc (.loop (recS r .ready none))) fun _ w3 =>
      ∃ st j, st ≠ .busy ∧ w3.heap[w.heap.size + 1]? = some (.loop (recS r st j)) ∧ Q j (w3.putObj (w.heap.size + 1) (.loop (recS r .exhausted j)))
/-- the blocks for the rounds' deferred calls are shut, at a function's end -/
def shutL : List Nat → World → (World → Prop) → Prop
  | [], w, K => K w
  | D :: r, w, K => w.heap[D]? = some (.deferred (some [])) ∧ shutL r (w.putObj D (.deferred none)) K
def argV : (L : Live) → LT L → List Value
  | [], _ => []
  | (_, t) :: r, x => val t x.1 :: argV r x.2
def sameL : List Nat → List Nat → Bool
  | [], [] => true
  | a :: r, b :: s => Nat.beq a b && sameL r s
  | _, _ => false
def noDup : List Nat → Bool
  | [] => true
  | a :: r => !(r.any (Nat.beq a)) && noDup r
def noR : Code → Bool
  | .seq a b => noR a && noR b
  | .cond _ a b => noR a && noR b
  | .block _ a => noR a
  | .loop a => noR a
  | .rangeFunc _ _ _ _ => false
  | _ => true

def den (P : Program) (anns : List (Nat × Live)) : Code → (Exit → List Nat → Env → World → Prop) → List Nat → Env → World → Prop
  | .skip, Q, m, env, w => Q .normal m env w
  | .region _ ops false, Q, m, env, w => opsF P ops (Q .normal m) ops.toList [] env w
  | .region _ ops true, Q, m, env, w => drawK w fun w => drawF P ops (masks ops.toList []) (Q .normal m) (ops.size + 1) 0 [] env w []
  | .seq a b, Q, m, env, w => match annOf anns (firstId b) with
    | none => den P anns a (fun e m' env' w' => match e with
      | .normal => den P anns b Q m' env' w'
      | e => Q e m' env' w') m env w
    | some L => match noR a with
      | true => JoinP (X := LT L) (fun R => den P anns a (fun e m' env' w' => match e with
        | .normal => rd L env' fun x => R x w'
        | e => Q e m' env' w') m env w)
        (fun x w' => ∀ junk : Env, den P anns b Q m (ovr L x (havoc (dsts a) junk env)) w')
      | false => False
  | .cond c a b, Q, m, env, w => match ev env c with
    | .bool t => gd t (den P anns a Q m env w) (den P anns b Q m env w)
    | _ => False
  | .block id c, Q, m, env, w => den P anns c (fun e m' env' w' => match e with
    | .exit i => match Nat.beq i id with
      | true => Q .normal m' env' w'
      | false => Q (.exit i) m' env' w'
    | e => Q e m' env' w') m env w
  | .loop c, Q, m, env, w => match noR c, annOf anns (firstId c + 1000) with
    | true, some L => rd L env fun x₀ => LoopP (X := LT L) x₀ w fun next x w' => ∀ junk : Env, den P anns c (fun e m' env' w'' => match e with
        | .normal => rd L env' fun x' => next x' w''
        | e => Q e m' env' w'') m (ovr L x (havoc (dsts c) junk env)) w'
    | _, _ => False
  | .exit id, Q, m, env, w => Q (.exit id) m env w
  | .ret, Q, m, env, w => Q .ret m env w
  | .label _, Q, m, env, w => Q .normal m env w
  | .rangeFunc g ps a b, Q, m, env, w => match annOf anns (firstId a + 5000) with
    | none => False
    | some L => match sameL ps.toList (L.map (·.1)) && noDup (L.map (·.1)) && noR a with
      | true => RangeP P (ev env g) w (LT L) (argV L) (fun l r x w1 K => den P anns a (fun e _ env1 w2 => match e with
          | .normal => busyK l r w2 fun w3 => den P anns b (fun e _ _ w4 => match e with
            | .normal => endK l r none w4 K
            | .ret => endK l r (some .ret) w4 K
            | _ => False) [] env1 w3
          | _ => False) [] (ovr L x env) w1) (fun j w5 => jumpK j (Q .normal (w.heap.size :: m) env w5) (Q .ret (w.heap.size :: m) env w5))
      | false => False
  | _, _, _, _, _ => False

/-! ### What is checked of a body once -/

def checkDraw (ops : Array Oper) : Bool :=
  let l := ops.toList
  let n := l.length
  let ms := masks l []
  Region.noSelect ops &&
  ((List.range n).all fun i => match l[i]? with
    | none => false
    | some oi => (bindsOn oi).all (fun e => Nat.blt e i) && (List.range i).all fun j => match l[j]? with
      | none => false
      | some oj => bit (ms.getD i 0) j || oi.apart ops oj)
/-- t: a range over a function may stand here -/
def checkB (P : Program) (n : Nat) : Bool → Code → Bool
  | _, .region _ ops d => (ops.toList.all fun o => match o.dst with | some d => Nat.blt d n | none => true) && (match d with | true => checkDraw ops | false => true)
  | t, .seq a b => checkB P n t a && checkB P n t b
  | t, .cond _ a b => checkB P n t a && checkB P n t b
  | t, .block _ a => checkB P n t a
  | _, .loop a => checkB P n false a
  | t, .rangeFunc _ ps a b => t && (ps.toList.all fun d => Nat.blt d n) && checkB P n false a && checkB P n false b
  | _, _ => true

/-! ### A function -/

def envOfArgs (args : Array Value) : Env := fun i => args.getD i undef
def resK (P : Program) (env : Env) (w : World) : List ResultVar → List Value → (Value → Prop) → Prop
  | [], acc, K => match acc.reverse with
    | [v] => K v
    | vs => K (.tuple vs.toArray)
  | .tmp t :: r, acc, K => resK P env w r (env t :: acc) K
  | .cell a t :: r, acc, K => match okT P t (tyOf P 9 t), env a with
    | true, .pointer (some p) => ∃ x : (tyOf P 9 t).T, At w p (cells (tyOf P 9 t) x) ∧ resK P env w r (val (tyOf P 9 t) x :: acc) K
    | _, _ => False
def denFn (P : Program) (anns : List (Nat × Live)) (fn : Func) (args : Array Value) (ty : Ty) (K : ty.T → World → Prop) (w : World) : Prop :=
  match fn.body with
  | some c => den P anns c (fun e m env w' => match e with
    | .normal => shutL m w' fun w' => resK P env w' fn.results.toList [] fun v => match un ty v with | some r => K r w' | none => False
    | .ret => shutL m w' fun w' => resK P env w' fn.results.toList [] fun v => match un ty v with | some r => K r w' | none => False
    | _ => False) [] (envOfArgs args) w
  | none => False

end Go.Den
