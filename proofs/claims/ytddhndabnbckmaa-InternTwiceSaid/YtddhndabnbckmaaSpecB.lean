/- What the package weight computes, from its texts. -/
import Derived.Test.YtddhndabnbckmaaSpecA
namespace Go.Proofs.Ytddhndabnbckmaa
open Go.Den

variable {w0 : World}

abbrev WT := Int × Int × Int × Int × Int × Int
abbrev MX : Int := 1152921504606846976
abbrev BASE : Int := 1103515245
def WT.len (a : WT) : Int := a.1
def WT.lines (a : WT) : Int := a.2.1
def WT.head (a : WT) : Int := a.2.2.1
def WT.tail (a : WT) : Int := a.2.2.2.1
def WT.dig (a : WT) : Int × Int := a.2.2.2.2

structure wOK (a : WT) : Prop where
  len : 0 ≤ a.1 ∧ a.1 ≤ 1152921504606846976
  lines : 0 ≤ a.2.1
  zero : a.2.1 = 0 → a.2.2.1 = a.1 ∧ a.2.2.2.1 = a.1
  pos : a.2.1 ≠ 0 → 0 ≤ a.2.2.1 ∧ a.2.2.1 ≤ a.1 ∧ 0 ≤ a.2.2.2.1 ∧ a.2.2.2.1 ≤ a.1 - a.2.2.1 ∧ a.2.1 ≤ a.1 - a.2.2.1 - a.2.2.2.1 ∧ (a.2.1 = 1 → a.1 - a.2.2.1 - a.2.2.2.1 = 1)
  val : 0 ≤ a.2.2.2.2.1 ∧ a.2.2.2.2.1 < 2305843009213693951
  empty : a.1 = 0 → a.2.2.2.2.1 = 0
  scale : a.2.2.2.2.2 = 1103515245 ^ a.1.toNat % 2305843009213693951

theorem wOK.dOK {a : WT} (h : wOK a) : dOK a.2.2.2.2 :=
  ⟨⟨h.val.1, h.val.2⟩, by rw [h.scale]; exact ⟨Int.emod_nonneg _ (by decide), Int.emod_lt_of_pos _ (by decide)⟩⟩

def wUnit : WT := (0, 0, 0, 0, 0, 1)
def wLetter (b : Int) : WT := if b = 10 then (1, 1, 0, 0, b + 1, 1103515245) else (1, 0, 1, 1, b + 1, 1103515245)
def wJoin (a b : WT) : WT := (a.1 + b.1, a.2.1 + b.2.1, (if a.2.1 = 0 then a.1 + b.2.2.1 else a.2.2.1), (if b.2.1 = 0 then b.1 + a.2.2.2.1 else b.2.2.2.1), dJoin a.2.2.2.2 b.2.2.2.2)
def wRep (a : WT) (k : Int) : WT := if a.1 * k = 0 then wUnit else (a.1 * k, a.2.1 * k, (if a.2.1 = 0 then a.1 * k else a.2.2.1), (if a.2.1 = 0 then a.1 * k else a.2.2.2.1), dNat a.2.2.2.2 k.toNat)

theorem wOK_unit : wOK wUnit := by
  constructor <;> simp [wUnit]
theorem wOK_letter {b : Int} (hb : 0 ≤ b ∧ b < 256) : wOK (wLetter b) := by
  unfold wLetter
  split
  · constructor <;> simp <;> omega
  · constructor <;> simp <;> omega
theorem wOK_join {a b : WT} (ha : wOK a) (hb : wOK b) (hl : a.1 + b.1 ≤ 1152921504606846976) : wOK (wJoin a b) := by
  obtain ⟨a1, a2, a3, a4, a5, a6, a7⟩ := ha
  obtain ⟨b1, b2, b3, b4, b5, b6, b7⟩ := hb
  constructor
  · simp only [wJoin]; omega
  · simp only [wJoin]; omega
  · simp only [wJoin]
    intro h
    have ea : a.2.1 = 0 := by omega
    have eb : b.2.1 = 0 := by omega
    rw [if_pos ea, if_pos eb]
    have := a3 ea
    have := b3 eb
    omega
  · simp only [wJoin]
    intro h
    by_cases ea : a.2.1 = 0
    · by_cases eb : b.2.1 = 0
      · omega
      · rw [if_pos ea, if_neg eb]
        have := a3 ea
        have := b4 eb
        omega
    · by_cases eb : b.2.1 = 0
      · rw [if_neg ea, if_pos eb]
        have := a4 ea
        have := b3 eb
        omega
      · rw [if_neg ea, if_neg eb]
        have := a4 ea
        have := b4 eb
        omega
  · exact (dOK_join _ _).1
  · simp only [wJoin, dJoin]
    intro h
    have ea : a.1 = 0 := by omega
    have eb : b.1 = 0 := by omega
    rw [a6 ea, b6 eb]
    simp
  · simp only [wJoin, dJoin, PP]
    rw [a7, b7, ← Int.mul_emod, ← Int.pow_add]
    congr 2
    omega
theorem dNat_scale (d : Int × Int) (x : Int) (n : Nat) (h : d.2 = x ^ n % 2305843009213693951) : ∀ k, (dNat d k).2 = x ^ (n * k) % 2305843009213693951
  | 0 => by simp [dNat, dUnit]
  | k + 1 => by
    simp only [dNat, dJoin, PP]
    rw [dNat_scale d x n h k, h, ← Int.mul_emod, ← Int.pow_add, Nat.mul_succ]
theorem wOK_rep {a : WT} {k : Int} (ha : wOK a) (hk : 0 ≤ k) (hl : a.1 * k ≤ 1152921504606846976) : wOK (wRep a k) := by
  unfold wRep
  split
  · exact wOK_unit
  · rename_i hne
    obtain ⟨a1, a2, a3, a4, a5, a6, a7⟩ := ha
    have hk1 : 1 ≤ k := by
      rcases Int.lt_or_le 0 k with h | h
      · omega
      · have : k = 0 := by omega
        subst this; simp at hne
    have hnn : 0 ≤ a.1 * k := Int.mul_nonneg a1.1 hk
    have hln : 0 ≤ a.2.1 * k := Int.mul_nonneg a2 hk
    have zl : a.2.1 * k = 0 ↔ a.2.1 = 0 := by
      constructor
      · intro h
        rcases Int.mul_eq_zero.1 h with h | h <;> omega
      · intro h; rw [h]; simp
    constructor
    · exact ⟨hnn, hl⟩
    · exact hln
    · intro h
      have := zl.1 h
      simp [this]
    · intro h
      have h' : a.2.1 ≠ 0 := fun e => h (zl.2 e)
      obtain ⟨p1, p2, p3, p4, p5, p6⟩ := a4 h'
      simp only [if_neg h']
      have e1 : a.1 * k = a.1 * (k - 1) + a.1 := by rw [Int.mul_sub, Int.mul_one]; omega
      have e2 : a.2.1 * k = a.2.1 * (k - 1) + a.2.1 := by rw [Int.mul_sub, Int.mul_one]; omega
      have m1 : a.2.1 * (k - 1) ≤ a.1 * (k - 1) := Int.mul_le_mul_of_nonneg_right (by omega) (by omega)
      have m2 : 0 ≤ a.2.1 * (k - 1) := Int.mul_nonneg a2 (by omega)
      rw [e1, e2]
      generalize hq : a.1 * (k - 1) = q at *
      generalize hr : a.2.1 * (k - 1) = r at *
      refine ⟨by omega, by omega, by omega, by omega, by omega, fun h1 => ?_⟩
      have hr0 : r = 0 := by omega
      have hone : a.2.1 = 1 := by omega
      have hk0 : k - 1 = 0 := by
        rcases Int.mul_eq_zero.1 (hr.trans hr0) with h | h
        · omega
        · exact h
      have : q = 0 := by rw [← hq, hk0]; simp
      have := p6 hone
      omega
    · exact (dOK_nat _ _).1
    · intro h; exact absurd h hne
    · have := dNat_scale a.2.2.2.2 1103515245 a.1.toNat a7 k.toNat
      simp only [this]
      congr 2
      have : (a.1 * k).toNat = a.1.toNat * k.toNat := Int.toNat_mul a1.1 hk
      rw [this]

theorem weight_Unit_spec {K : WT → World → Prop} (h : ∀ w', Ext w0 w' → K wUnit w') : C_weight_Unit K w0 := by
  apply S_weight_Unit
  unfold F_weight_Unit
  exact (St.init w0).allocK fun b1 w1 s _ _ => digest_Unit_spec fun w2 e => (s.ext e).st0 0 rfl rfl rfl fun w3 s _ => s.ld0 (x := (_, _, _, _, _, _)) 0 rfl rfl (h _ s.fr)

theorem weight_Letter_spec {b : Int} (hb : 0 ≤ b ∧ b < 256) {K : WT → World → Prop} (h : ∀ w', Ext w0 w' → K (wLetter b) w') : C_weight_Letter b K w0 := by
  apply S_weight_Letter
  unfold F_weight_Letter
  refine (St.init w0).allocK fun b1 w1 s _ _ => gd_eq (fun h1 => ?_) (fun h1 => ?_)
  · refine digest_Letter_spec hb fun w2 e => (s.ext e).st0 0 rfl rfl rfl fun w3 s _ => s.ld0 (x := (_, _, _, _, _, _)) 0 rfl rfl ?_
    have := h _ s.fr
    rwa [wLetter, if_pos h1] at this
  · refine digest_Letter_spec hb fun w2 e => (s.ext e).st0 0 rfl rfl rfl fun w3 s _ => s.ld0 (x := (_, _, _, _, _, _)) 0 rfl rfl ?_
    have := h _ s.fr
    rwa [wLetter, if_neg h1] at this

theorem weight_Valid_spec {a : WT} (ha : wOK a) {K : Bool → World → Prop} (h : ∀ w', Ext w0 w' → K true w') : C_weight_Valid a K w0 := by
  apply S_weight_Valid
  unfold F_weight_Valid
  obtain ⟨a1, a2, a3, a4, a5, a6, a7⟩ := ha
  refine (St.init w0).allocK fun b1 w1 s _ _ => ?_
  refine ⟨fun x w => x.1 = false ∧ w = w1, s.ldi 0 0 rfl rfl (length_Valid_spec ?_), ?_⟩
  · rw [decide_eq_true a1]
    exact gd_f rfl (s.ldi 0 1 rfl rfl ⟨decide_eq_false (by omega), rfl⟩)
  · rintro ⟨x, _⟩ w2 ⟨rfl, rfl⟩ _
    refine gd_f rfl ⟨fun _ w => w = w2, s.ldi 0 1 rfl rfl (gd_eq (fun hz => ?_) (fun hz => ?_)), ?_⟩
    · obtain ⟨z1, z2⟩ := a3 hz
      refine ⟨fun x w => x.1 = false ∧ w = w2, s.ldi 0 2 rfl rfl (s.ldi 0 0 rfl rfl (gd_f (by simp [z1]) (s.ldi 0 3 rfl rfl (s.ldi 0 0 rfl rfl ⟨by simp [z2], rfl⟩)))), ?_⟩
      rintro ⟨x, _⟩ w ⟨rfl, rfl⟩ _
      exact gd_f rfl rfl
    · obtain ⟨p1, p2, p3, p4, p5, p6⟩ := a4 hz
      refine ⟨fun x w => x.1 = false ∧ w = w2, s.ldi 0 2 rfl rfl (gd_dec (fun h => absurd h (by omega)) (fun _ => s.ldi 0 2 rfl rfl (s.ldi 0 0 rfl rfl (gd_dec (fun h => absurd h (by omega)) (fun _ =>
        s.ldi 0 3 rfl rfl (gd_dec (fun h => absurd h (by omega)) (fun _ => s.ldi 0 3 rfl rfl (s.ldi 0 0 rfl rfl (s.ldi 0 2 rfl rfl (arith_i64 (by omega) (by omega) ⟨decide_eq_false (by omega), rfl⟩))))))))) ), ?_⟩
      rintro ⟨x, _⟩ w ⟨rfl, rfl⟩ _
      refine gd_f rfl (s.ldi 0 0 rfl rfl (s.ldi 0 2 rfl rfl (arith_i64 (by omega) (by omega) (s.ldi 0 3 rfl rfl (arith_i64 (by omega) (by omega) ?_)))))
      refine ⟨fun x w' => x.1 = false ∧ w' = w, s.ldi 0 1 rfl rfl (gd_dec (fun h => absurd h (by omega)) (fun _ => s.ldi 0 1 rfl rfl (gd_eq (fun h1 => ⟨by simp [p6 h1], rfl⟩) (fun _ => ⟨rfl, rfl⟩)))), ?_⟩
      rintro ⟨x, _⟩ w ⟨rfl, rfl⟩ _
      exact gd_f rfl rfl
    · rintro _ w rfl _
      refine ⟨fun x w' => x.1 = false ∧ w' = w, ?_, ?_⟩
      · have e4 : ∀ o, (Addr.add (Addr.add ⟨b1, 0, none⟩ 4) o) = Addr.add ⟨b1, 0, none⟩ (4 + o) := fun o => Addr.add_add _ _ _
        simp only [e4]
        refine s.ldi 0 4 rfl rfl (gd_dec (fun h => absurd h (by omega)) (fun _ => s.ldi 0 0 rfl rfl (gd_eq (fun h0 => s.ldi 0 4 rfl rfl ⟨by simp [a6 h0], trivial⟩) (fun _ => ⟨trivial, trivial⟩))))
      · rintro ⟨x, _⟩ w ⟨rfl, rfl⟩ _
        have e4 : ∀ o, (Addr.add (Addr.add ⟨b1, 0, none⟩ 4) o) = Addr.add ⟨b1, 0, none⟩ (4 + o) := fun o => Addr.add_add _ _ _
        simp only [e4]
        refine gd_f rfl (s.drawK fun w9 s _ _ => s.ldi 0 5 rfl rfl (s.ldi 0 0 rfl rfl (arith_u64 (by omega) (by omega) (modular_Pow_spec (by decide) (by omega) ⟨s.still 0 5 rfl rfl, ?_⟩))))
        have : (a.2.2.2.2.2 == 1103515245 ^ a.1.toNat % 2305843009213693951) = true := by rw [a7]; simp
        rw [this]
        exact h _ s.fr


theorem weight_Join_spec {a b : WT} (ha : wOK a) (hb : wOK b) {K : WT × Value → World → Prop} (hl : a.1 + b.1 ≤ 1152921504606846976) (h : ∀ w', Ext w0 w' → K (wJoin a b, .nilIface) w') : C_weight_Join a b K w0 := by
  apply S_weight_Join
  unfold F_weight_Join
  have hj := wOK_join ha hb hl
  have da := ha.dOK
  have db := hb.dOK
  have la : a.2.1 ≤ a.1 := by
    by_cases e : a.2.1 = 0
    · rw [e]; exact ha.len.1
    · have := ha.pos e; omega
  have lb : b.2.1 ≤ b.1 := by
    by_cases e : b.2.1 = 0
    · rw [e]; exact hb.len.1
    · have := hb.pos e; omega
  have ha2 := ha.len
  have hb2 := hb.len
  have ha3 := ha.lines
  have hb3 := hb.lines
  refine (St.init w0).allocK fun b1 w1 s _ _ => s.allocK fun b2 w2 s _ _ => s.allocK fun b3 w3 s _ _ => ?_
  refine ⟨fun x w => x.1 = false ∧ St w0 (fun _ => False) [(b3, [.int .i64 0, .int .i64 0, .int .i64 0, .int .i64 0, .int .u64 0, .int .u64 0]), (b2, cells yapi_Weight b), (b1, cells yapi_Weight a)] w, s.ld0 2 rfl rfl (weight_Valid_spec ha fun w5 e => ?_), ?_⟩
  · exact gd_f rfl ((s.ext e).ld0 1 rfl rfl (weight_Valid_spec hb fun w6 e6 => ⟨rfl, (s.ext e).ext e6⟩))
  · rintro ⟨x, _⟩ w4 ⟨rfl, s⟩ _
    refine gd_f rfl (s.ldi 2 0 rfl rfl (s.ldi 1 0 rfl rfl (length_Add_spec ha.len hb.len (fun _ => nilIfc_nil (gd_f rfl ?_)) (fun h => absurd h (by omega)))))
    refine ⟨fun x w => ∃ b4, x.1 = ⟨b4, 0, none⟩ ∧ St w0 (fun _ => False) [(b4, [.int .i64 (a.1 + b.1), .int .i64 (a.2.1 + b.2.1), .int .i64 a.2.2.1, .int .i64 b.2.2.2.1, .int .u64 (dJoin a.2.2.2.2 b.2.2.2.2).1, .int .u64 (dJoin a.2.2.2.2 b.2.2.2.2).2]), (b3, [.int .i64 0, .int .i64 0, .int .i64 0, .int .i64 0, .int .u64 0, .int .u64 0]), (b2, cells yapi_Weight b), (b1, cells yapi_Weight a)] w, ?_, ?_⟩
    · refine s.drawK fun w11 s _ _ => s.ldi 2 1 rfl rfl (s.ldi 1 1 rfl rfl (arith_i64 (by omega) (by omega) (s.ldi 2 2 rfl rfl (s.ldi 1 3 rfl rfl (s.ld 2 4 rfl rfl (s.ld 1 4 rfl rfl ⟨?_, ?_⟩))))))
      · refine digest_Join_spec da db fun w12 e => ?_
        have s := s.ext e
        refine ⟨s.still 1 3 rfl rfl, s.still 2 2 rfl rfl, s.still 1 1 rfl rfl, s.still 2 1 rfl rfl, s.allocK fun b4 w13 s _ _ => ⟨s.still 2 3 rfl rfl, s.still 3 2 rfl rfl, s.still 2 1 rfl rfl, s.still 3 1 rfl rfl, s.st0 0 rfl rfl rfl fun w14 s _ => ⟨b4, rfl, s⟩⟩⟩
      · refine s.allocK fun b4 w13 s _ _ => ⟨s.still 2 4 rfl rfl, s.still 3 4 rfl rfl, s.still 2 3 rfl rfl, s.still 3 2 rfl rfl, s.still 2 1 rfl rfl, s.still 3 1 rfl rfl, digest_Join_spec da db fun w12 e => ?_⟩
        have s := s.ext e
        exact ⟨s.still 2 3 rfl rfl, s.still 3 2 rfl rfl, s.still 2 1 rfl rfl, s.still 3 1 rfl rfl, s.st0 0 rfl rfl rfl fun w14 s _ => ⟨b4, rfl, s⟩⟩
    · rintro ⟨x, _⟩ w10 ⟨b4, rfl, s⟩ _
      refine ⟨fun _ w => St w0 (fun _ => False) [(b4, [.int .i64 (a.1 + b.1), .int .i64 (a.2.1 + b.2.1), .int .i64 (if a.2.1 = 0 then a.1 + b.2.2.1 else a.2.2.1), .int .i64 b.2.2.2.1, .int .u64 (dJoin a.2.2.2.2 b.2.2.2.2).1, .int .u64 (dJoin a.2.2.2.2 b.2.2.2.2).2]), (b3, [.int .i64 0, .int .i64 0, .int .i64 0, .int .i64 0, .int .u64 0, .int .u64 0]), (b2, cells yapi_Weight b), (b1, cells yapi_Weight a)] w, s.ldi 3 1 rfl rfl (gd_eq (fun hz => ?_) (fun hz => ?_)), ?_⟩
      · have : 0 ≤ b.2.2.1 ∧ b.2.2.1 ≤ b.1 := by
          by_cases e : b.2.1 = 0
          · have := hb.zero e; omega
          · have := hb.pos e; omega
        refine s.ldi 3 0 rfl rfl (s.ldi 2 2 rfl rfl (arith_i64 (by omega) (by omega) (s.st 0 2 rfl (by simp) rfl fun w19 s _ => ?_)))
        rw [if_pos hz]; exact s
      · rw [if_neg hz]; exact s
      · rintro _ w18 s _
        refine ⟨fun _ w => St w0 (fun _ => False) [(b4, cells yapi_Weight (wJoin a b)), (b3, [.int .i64 0, .int .i64 0, .int .i64 0, .int .i64 0, .int .u64 0, .int .u64 0]), (b2, cells yapi_Weight b), (b1, cells yapi_Weight a)] w, s.ldi 2 1 rfl rfl (gd_eq (fun hz => ?_) (fun hz => ?_)), ?_⟩
        · have : 0 ≤ a.2.2.2.1 ∧ a.2.2.2.1 ≤ a.1 := by
            by_cases e : a.2.1 = 0
            · have := ha.zero e; omega
            · have := ha.pos e; omega
          refine s.ldi 2 0 rfl rfl (s.ldi 3 3 rfl rfl (arith_i64 (by omega) (by omega) (s.st 0 3 rfl (by simp) rfl fun w19 s _ => ?_)))
          have e : cells yapi_Weight (wJoin a b) = splice [.int .i64 (a.1 + b.1), .int .i64 (a.2.1 + b.2.1), .int .i64 (if a.2.1 = 0 then a.1 + b.2.2.1 else a.2.2.1), .int .i64 b.2.2.2.1, .int .u64 (dJoin a.2.2.2.2 b.2.2.2.2).1, .int .u64 (dJoin a.2.2.2.2 b.2.2.2.2).2] 3 [.int .i64 (b.1 + a.2.2.2.1)] := by
            simp [cells, wJoin, splice, hz]
          rw [e]; exact s
        · have e : cells yapi_Weight (wJoin a b) = [.int .i64 (a.1 + b.1), .int .i64 (a.2.1 + b.2.1), .int .i64 (if a.2.1 = 0 then a.1 + b.2.2.1 else a.2.2.1), .int .i64 b.2.2.2.1, .int .u64 (dJoin a.2.2.2.2 b.2.2.2.2).1, .int .u64 (dJoin a.2.2.2.2 b.2.2.2.2).2] := by
            simp [cells, wJoin, hz]
          rw [e]; exact s
        · rintro _ w20 s _
          exact s.ld0 0 rfl rfl (s.st0 1 rfl rfl rfl fun w22 s _ => s.ld0 1 rfl rfl (h _ s.fr))

theorem weight_Repeat_spec {a : WT} {k : Int} (ha : wOK a) (hk : 0 ≤ k ∧ k ≤ 9223372036854775807) {K : WT × Value → World → Prop} (hl : a.1 * k ≤ 1152921504606846976) (h : ∀ w', Ext w0 w' → K (wRep a k, .nilIface) w') : C_weight_Repeat a k K w0 := by
  apply S_weight_Repeat
  unfold F_weight_Repeat
  have da := ha.dOK
  have la : a.2.1 ≤ a.1 := by
    by_cases e : a.2.1 = 0
    · rw [e]; exact ha.len.1
    · have := ha.pos e; omega
  have ha2 := ha.len
  have ha3 := ha.lines
  have hlk : 0 ≤ a.2.1 * k ∧ a.2.1 * k ≤ 1152921504606846976 := ⟨Int.mul_nonneg ha3 hk.1, Int.le_trans (Int.mul_le_mul_of_nonneg_right la hk.1) hl⟩
  refine (St.init w0).allocK fun b1 w1 s _ _ => s.allocK fun b2 w2 s _ _ => s.ld0 1 rfl rfl (weight_Valid_spec ha fun w3 e => ?_)
  have s := s.ext e
  refine gd_f rfl (gd_dec (fun h => absurd h (by omega)) (fun _ => s.ldi 1 0 rfl rfl (length_Mul_spec ha.len hk.1 (fun _ => nilIfc_nil (gd_f rfl (gd_eq (fun hz => ?_) (fun hz => ?_)))) (fun h => absurd h (by omega)))))
  · refine weight_Unit_spec fun w8 e => (s.ext e).st0 0 rfl rfl rfl fun w9 s _ => s.ld0 0 rfl rfl ?_
    have := h _ s.fr
    rwa [wRep, if_pos hz] at this
  · refine ⟨fun x w => ∃ b4, x.1 = ⟨b4, 0, none⟩ ∧ St w0 (fun _ => False) [(b4, [.int .i64 (a.1 * k), .int .i64 (a.2.1 * k), .int .i64 a.2.2.1, .int .i64 a.2.2.2.1, .int .u64 (dNat a.2.2.2.2 k.toNat).1, .int .u64 (dNat a.2.2.2.2 k.toNat).2]), (b2, [.int .i64 0, .int .i64 0, .int .i64 0, .int .i64 0, .int .u64 0, .int .u64 0]), (b1, cells yapi_Weight a)] w, ?_, ?_⟩
    · refine s.drawK fun w11 s _ _ => s.ldi 1 1 rfl rfl (arith_i64 (by omega) (by omega) (s.ldi 1 2 rfl rfl (s.ldi 1 3 rfl rfl (s.ld 1 4 rfl rfl ⟨?_, ?_⟩))))
      · refine digest_Repeat_spec da hk fun w12 e => ?_
        have s := s.ext e
        refine ⟨s.still 1 3 rfl rfl, s.still 1 2 rfl rfl, s.still 1 1 rfl rfl, s.allocK fun b4 w13 s _ _ => ⟨s.still 2 3 rfl rfl, s.still 2 2 rfl rfl, s.still 2 1 rfl rfl, s.st0 0 rfl rfl rfl fun w14 s _ => ⟨b4, rfl, s⟩⟩⟩
      · refine s.allocK fun b4 w13 s _ _ => ⟨s.still 2 4 rfl rfl, s.still 2 3 rfl rfl, s.still 2 2 rfl rfl, s.still 2 1 rfl rfl, digest_Repeat_spec da hk fun w12 e => ?_⟩
        have s := s.ext e
        exact ⟨s.still 2 3 rfl rfl, s.still 2 2 rfl rfl, s.still 2 1 rfl rfl, s.st0 0 rfl rfl rfl fun w14 s _ => ⟨b4, rfl, s⟩⟩
    · rintro ⟨x, _⟩ w10 ⟨b4, rfl, s⟩ _
      refine ⟨fun _ w => St w0 (fun _ => False) [(b4, cells yapi_Weight (wRep a k)), (b2, [.int .i64 0, .int .i64 0, .int .i64 0, .int .i64 0, .int .u64 0, .int .u64 0]), (b1, cells yapi_Weight a)] w, s.ldi 2 1 rfl rfl (gd_eq (fun h0 => ?_) (fun h0 => ?_)), ?_⟩
      · refine s.st 0 2 rfl (by simp) rfl fun w19 s _ => s.st 0 3 rfl (by simp [splice]) rfl fun w20 s _ => ?_
        have e : cells yapi_Weight (wRep a k) = [.int .i64 (a.1 * k), .int .i64 (a.2.1 * k), .int .i64 (a.1 * k), .int .i64 (a.1 * k), .int .u64 (dNat a.2.2.2.2 k.toNat).1, .int .u64 (dNat a.2.2.2.2 k.toNat).2] := by
          simp [cells, wRep, hz, h0]
        rw [e]; exact s
      · have e : cells yapi_Weight (wRep a k) = [.int .i64 (a.1 * k), .int .i64 (a.2.1 * k), .int .i64 a.2.2.1, .int .i64 a.2.2.2.1, .int .u64 (dNat a.2.2.2.2 k.toNat).1, .int .u64 (dNat a.2.2.2.2 k.toNat).2] := by
          simp [cells, wRep, hz, h0]
        rw [e]; exact s
      · rintro _ w20 s _
        exact s.ld0 0 rfl rfl (s.st0 1 rfl rfl rfl fun w22 s _ => s.ld0 1 rfl rfl (h _ s.fr))

end Go.Proofs.Ytddhndabnbckmaa
