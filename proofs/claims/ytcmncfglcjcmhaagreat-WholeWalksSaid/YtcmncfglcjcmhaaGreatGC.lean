/- Texts that belong together, joined: SpecA, SpecB, SpecC, SpecD, SpecE, Err, Shape, SpecF, Txt. No conditions. -/
import Derived.KernelRfl
import Derived.Test.YtcmncfglcjcmhaaGreatGB
import Derived.Test.YtcmncfglcjcmhaaGreatXA
/- What the packages length, modular and digest compute, from their texts. -/
set_option linter.unusedVariables false
set_option linter.unusedSimpArgs false
namespace Go.Proofs.YtcmncfglcjcmhaaGreat
open Go.Den

/-! ### Numbers -/
theorem fdiv_pow (x : Int) (k : Nat) : Int.fdiv x (2 ^ k) = x / 2 ^ k := Int.fdiv_eq_ediv_of_nonneg x (by exact Int.pow_nonneg (by decide))
theorem fdiv61 (x : Int) : Int.fdiv x (2 ^ min (Int.toNat (61 : Int)) (IntKind.bits .u64)) = x / 2305843009213693952 := by
  rw [show min (Int.toNat (61 : Int)) (IntKind.bits .u64) = 61 from rfl, fdiv_pow]; rfl
theorem fdiv32 (x : Int) : Int.fdiv x (2 ^ min (Int.toNat (32 : Int)) (IntKind.bits .u64)) = x / 4294967296 := by
  rw [show min (Int.toNat (32 : Int)) (IntKind.bits .u64) = 32 from rfl, fdiv_pow]; rfl
theorem mask (x : Int) (k : Nat) (m : Int) (hk : k ≤ 64) (hm : m = 2 ^ k - 1) (h0 : 0 ≤ x) (h1 : x < 18446744073709551616) :
    (((BitVec.ofInt (IntKind.bits .u64) x &&& BitVec.ofInt (IntKind.bits .u64) m).toNat : Nat) : Int) = x % 2 ^ k := by
  obtain ⟨n, rfl⟩ := Int.eq_ofNat_of_zero_le h0
  have hb : IntKind.bits .u64 = 64 := rfl
  rw [hb, BitVec.toNat_and, BitVec.toNat_ofInt, BitVec.toNat_ofInt]
  have e1 : ((n : Int) % ((2 ^ 64 : Nat) : Int)).toNat = n := by
    have : ((2 ^ 64 : Nat) : Int) = 18446744073709551616 := by decide
    rw [this]; omega
  have e2 : (m % ((2 ^ 64 : Nat) : Int)).toNat = 2 ^ k - 1 := by
    have h64 : ((2 ^ 64 : Nat) : Int) = 18446744073709551616 := by decide
    have hle : (2 : Nat) ^ k ≤ 2 ^ 64 := Nat.pow_le_pow_right (by decide) hk
    have hpos : 0 < (2 : Nat) ^ k := Nat.pow_pos (by decide)
    have hc : ((2 : Int) ^ k) = ((2 ^ k : Nat) : Int) := by simp
    rw [hm, hc, h64]
    have : (2 : Nat) ^ 64 = 18446744073709551616 := by decide
    omega
  rw [e1, e2, Nat.and_two_pow_sub_one_eq_mod]
  simp
theorem mask61 (x : Int) (h0 : 0 ≤ x) (h1 : x < 18446744073709551616) :
    (((BitVec.ofInt (IntKind.bits .u64) x &&& BitVec.ofInt (IntKind.bits .u64) (2305843009213693951 : Int)).toNat : Nat) : Int) = x % 2305843009213693952 :=
  mask x 61 _ (by decide) (by decide) h0 h1
theorem mask32 (x : Int) (h0 : 0 ≤ x) (h1 : x < 18446744073709551616) :
    (((BitVec.ofInt (IntKind.bits .u64) x &&& BitVec.ofInt (IntKind.bits .u64) (4294967295 : Int)).toNat : Nat) : Int) = x % 4294967296 :=
  mask x 32 _ (by decide) (by decide) h0 h1

variable {w0 : World}

/-! ### length -/
theorem length_Valid_spec {n : Int} {K : Bool → World → Prop} (h : K (decide (0 ≤ n ∧ n ≤ 1152921504606846976)) w0) : C_length_Valid n K w0 := by
  apply S_length_Valid
  unfold F_length_Valid
  refine gd_dec (fun h1 => ?_) (fun h1 => ?_)
  · have : decide (n ≤ 1152921504606846976) = decide (0 ≤ n ∧ n ≤ 1152921504606846976) := by simp [h1]
    rw [this]; exact h
  · have : false = decide (0 ≤ n ∧ n ≤ 1152921504606846976) := by simp [h1]
    rw [this]; exact h

def errV (n : Int) : Value := .iface t_api_Errno (.int .i64 n)

/-- for lengths -/
theorem length_Add_spec {a b : Int} {K : Int × Value → World → Prop} (ha : 0 ≤ a ∧ a ≤ 1152921504606846976) (hb : 0 ≤ b ∧ b ≤ 1152921504606846976)
    (h1 : a + b ≤ 1152921504606846976 → K (a + b, .nilIface) w0) (h2 : 1152921504606846976 < a + b → K (0, errV 2) w0) : C_length_Add a b K w0 := by
  apply S_length_Add
  unfold F_length_Add
  refine ⟨fun x w => x.1 = false ∧ w = w0, ?_, ?_⟩
  · refine length_Valid_spec ?_
    rw [decide_eq_true ha]
    refine gd_f rfl (length_Valid_spec ?_)
    rw [decide_eq_true hb]
    exact ⟨rfl, rfl⟩
  · rintro ⟨b', _⟩ w ⟨rfl, rfl⟩ _
    refine gd_f rfl (arith_i64 (by omega) (by omega) (gd_dec (fun h => h2 (by omega)) (fun h => arith_i64 (by omega) (by omega) (h1 (by omega)))))

theorem length_Mul_spec {a k : Int} {K : Int × Value → World → Prop} (ha : 0 ≤ a ∧ a ≤ 1152921504606846976) (hk : 0 ≤ k)
    (h1 : a * k ≤ 1152921504606846976 → K (a * k, .nilIface) w0) (h2 : 1152921504606846976 < a * k → K (0, errV 2) w0) : C_length_Mul a k K w0 := by
  apply S_length_Mul
  unfold F_length_Mul
  refine ⟨fun x w => x.1 = false ∧ w = w0, ?_, ?_⟩
  · refine length_Valid_spec ?_
    rw [decide_eq_true ha]
    exact gd_f rfl ⟨decide_eq_false (by omega), rfl⟩
  · rintro ⟨b', _⟩ w ⟨rfl, rfl⟩ _
    refine gd_f rfl (gd_eq (fun h => ?_) (fun h => ?_))
    · subst h
      have := h1 (by simp)
      simpa using this
    · have hp : 0 < a := by omega
      have hd : Int.tdiv 1152921504606846976 a = 1152921504606846976 / a := Int.tdiv_eq_ediv_of_nonneg (by decide)
      have hb : 0 ≤ 1152921504606846976 / a ∧ 1152921504606846976 / a ≤ 1152921504606846976 := ⟨Int.ediv_nonneg (by decide) (by omega), Int.ediv_le_self _ (by decide)⟩
      have hiff : 1152921504606846976 / a < k ↔ 1152921504606846976 < a * k := by
        rw [Int.mul_comm]; exact Int.ediv_lt_iff_lt_mul hp
      refine ⟨h, ?_⟩
      rw [hd]
      refine arith_i64 (by omega) (by omega) (gd_dec (fun h => h2 (hiff.1 h)) (fun h => ?_))
      have hle : a * k ≤ 1152921504606846976 := by
        have := mt hiff.2 h; omega
      have hnn : 0 ≤ a * k := Int.mul_nonneg ha.1 hk
      exact arith_i64 (by omega) (by omega) (h1 hle)

theorem length_Clip_spec {n lo hi : Int} {K : Int → World → Prop} (h : K (if n < lo then lo else if hi < n then hi else n) w0) : C_length_Clip n lo hi K w0 := by
  apply S_length_Clip
  unfold F_length_Clip
  refine gd_dec (fun h1 => ?_) (fun h1 => gd_dec (fun h2 => ?_) (fun h2 => ?_))
  · rwa [if_pos h1] at h
  · rwa [if_neg h1, if_pos h2] at h
  · rwa [if_neg h1, if_neg h2] at h

/-! ### modular: numbers modulo 2^61 - 1 -/
theorem reduce_val (x : Int) (h0 : 0 ≤ x) (h1 : x < 18446744073709551616) :
    (if 2305843009213693951 ≤ x % 2305843009213693952 + x / 2305843009213693952 then x % 2305843009213693952 + x / 2305843009213693952 - 2305843009213693951 else x % 2305843009213693952 + x / 2305843009213693952) = x % 2305843009213693951 := by
  split <;> omega

theorem modular_Reduce_spec {x : Int} {K : Int → World → Prop} (h0 : 0 ≤ x) (h1 : x < 18446744073709551616) (h : K (x % 2305843009213693951) w0) : C_modular_Reduce x K w0 := by
  apply S_modular_Reduce
  unfold F_modular_Reduce
  rw [mask61 x h0 h1, fdiv61]
  refine arith_u64 (by omega) (by omega) ⟨by decide, letZ_mk (arith_u64 (by omega) (by omega) ?_)⟩
  have hv := reduce_val x h0 h1
  refine ⟨fun y w => y.1 = x % 2305843009213693951 ∧ w = w0, gd_dec (fun h2 => ?_) (fun h2 => ?_), ?_⟩
  · rw [if_pos h2] at hv
    exact arith_u64 (by omega) (by omega) ⟨hv, rfl⟩
  · rw [if_neg h2] at hv
    exact ⟨hv, rfl⟩
  · rintro ⟨y, _⟩ w ⟨rfl, rfl⟩ _
    exact h

theorem modular_Add_spec {a b : Int} {K : Int → World → Prop} (ha : 0 ≤ a ∧ a < 18446744073709551616) (hb : 0 ≤ b ∧ b < 18446744073709551616) (h : K ((a + b) % 2305843009213693951) w0) : C_modular_Add a b K w0 := by
  apply S_modular_Add
  unfold F_modular_Add
  refine modular_Reduce_spec ha.1 ha.2 (modular_Reduce_spec hb.1 hb.2 (arith_u64 (by omega) (by omega) (modular_Reduce_spec (by omega) (by omega) ?_)))
  rwa [← Int.add_emod]

theorem mul_bound {a b A B : Int} (ha : 0 ≤ a) (hA : a ≤ A) (hb : 0 ≤ b) (hB : b ≤ B) : 0 ≤ a * b ∧ a * b ≤ A * B :=
  ⟨Int.mul_nonneg ha hb, Int.mul_le_mul hA hB hb (by omega)⟩

theorem mul64_core (a b c d : Int) (ha : 0 ≤ a ∧ a ≤ 4294967295 * 4294967295) (hb : 0 ≤ b ∧ b ≤ 4294967295 * 4294967295) (hc : 0 ≤ c ∧ c ≤ 4294967295 * 4294967295) (hd : 0 ≤ d ∧ d ≤ 4294967295 * 4294967295) :
    (0 ≤ a ∧ a < 18446744073709551616) ∧ (0 ≤ b ∧ b < 18446744073709551616) ∧ (0 ≤ b + a / 4294967296 ∧ b + a / 4294967296 < 18446744073709551616) ∧ (0 ≤ c ∧ c < 18446744073709551616) ∧
    (0 ≤ (b + a / 4294967296) % 4294967296 + c ∧ (b + a / 4294967296) % 4294967296 + c < 18446744073709551616) ∧ (0 ≤ d ∧ d < 18446744073709551616) ∧ d + (b + a / 4294967296) / 4294967296 < 18446744073709551616 ∧
    d + (b + a / 4294967296) / 4294967296 + ((b + a / 4294967296) % 4294967296 + c) / 4294967296 < 18446744073709551616 ∧
    d + (b + a / 4294967296) / 4294967296 + ((b + a / 4294967296) % 4294967296 + c) / 4294967296 = (d * 18446744073709551616 + b * 4294967296 + c * 4294967296 + a) / 18446744073709551616 := by
  refine ⟨by omega, by omega, by omega, by omega, by omega, by omega, by omega, by omega, by omega⟩

/-- the product of two words in two words -/
theorem mul64_val (x y : Int) (hx : 0 ≤ x ∧ x < 18446744073709551616) (hy : 0 ≤ y ∧ y < 18446744073709551616) :
    (0 ≤ (x % 4294967296 * (y % 4294967296)) ∧ (x % 4294967296 * (y % 4294967296)) < 18446744073709551616) ∧ (0 ≤ (x / 4294967296 * (y % 4294967296)) ∧ (x / 4294967296 * (y % 4294967296)) < 18446744073709551616) ∧ (0 ≤ (x / 4294967296 * (y % 4294967296)) + (x % 4294967296 * (y % 4294967296)) / 4294967296 ∧ (x / 4294967296 * (y % 4294967296)) + (x % 4294967296 * (y % 4294967296)) / 4294967296 < 18446744073709551616) ∧ (0 ≤ (x % 4294967296 * (y / 4294967296)) ∧ (x % 4294967296 * (y / 4294967296)) < 18446744073709551616) ∧
    (0 ≤ ((x / 4294967296 * (y % 4294967296)) + (x % 4294967296 * (y % 4294967296)) / 4294967296) % 4294967296 + (x % 4294967296 * (y / 4294967296)) ∧ ((x / 4294967296 * (y % 4294967296)) + (x % 4294967296 * (y % 4294967296)) / 4294967296) % 4294967296 + (x % 4294967296 * (y / 4294967296)) < 18446744073709551616) ∧ (0 ≤ (x / 4294967296 * (y / 4294967296)) ∧ (x / 4294967296 * (y / 4294967296)) < 18446744073709551616) ∧ (x / 4294967296 * (y / 4294967296)) + ((x / 4294967296 * (y % 4294967296)) + (x % 4294967296 * (y % 4294967296)) / 4294967296) / 4294967296 < 18446744073709551616 ∧
    (x / 4294967296 * (y / 4294967296)) + ((x / 4294967296 * (y % 4294967296)) + (x % 4294967296 * (y % 4294967296)) / 4294967296) / 4294967296 + (((x / 4294967296 * (y % 4294967296)) + (x % 4294967296 * (y % 4294967296)) / 4294967296) % 4294967296 + (x % 4294967296 * (y / 4294967296))) / 4294967296 < 18446744073709551616 ∧
    (x / 4294967296 * (y / 4294967296)) + ((x / 4294967296 * (y % 4294967296)) + (x % 4294967296 * (y % 4294967296)) / 4294967296) / 4294967296 + (((x / 4294967296 * (y % 4294967296)) + (x % 4294967296 * (y % 4294967296)) / 4294967296) % 4294967296 + (x % 4294967296 * (y / 4294967296))) / 4294967296 = x * y / 18446744073709551616 := by
  have hx0 : 0 ≤ x % 4294967296 ∧ x % 4294967296 ≤ 4294967295 := by omega
  have hx1 : 0 ≤ x / 4294967296 ∧ x / 4294967296 ≤ 4294967295 := by omega
  have hy0 : 0 ≤ y % 4294967296 ∧ y % 4294967296 ≤ 4294967295 := by omega
  have hy1 : 0 ≤ y / 4294967296 ∧ y / 4294967296 ≤ 4294967295 := by omega
  have ex : x = x / 4294967296 * 4294967296 + x % 4294967296 := by omega
  have ey : y = y / 4294967296 * 4294967296 + y % 4294967296 := by omega
  have e : ∀ x0 x1 y0 y1 : Int, (x1 * 4294967296 + x0) * (y1 * 4294967296 + y0) = (x1 * y1) * 18446744073709551616 + (x1 * y0) * 4294967296 + (x0 * y1) * 4294967296 + x0 * y0 := by
    intro x0 x1 y0 y1
    simp only [Int.add_mul, Int.mul_add]
    have r1 : x1 * 4294967296 * (y1 * 4294967296) = x1 * y1 * 18446744073709551616 := by
      rw [Int.mul_assoc, Int.mul_left_comm 4294967296 y1, ← Int.mul_assoc x1]; rfl
    have r2 : x1 * 4294967296 * y0 = x1 * y0 * 4294967296 := by rw [Int.mul_assoc, Int.mul_comm 4294967296 y0, ← Int.mul_assoc]
    have r3 : x0 * (y1 * 4294967296) = x0 * y1 * 4294967296 := by rw [← Int.mul_assoc]
    rw [r1, r2, r3]; omega
  have exy : x * y = (x / 4294967296 * (y / 4294967296)) * 18446744073709551616 + (x / 4294967296 * (y % 4294967296)) * 4294967296 + (x % 4294967296 * (y / 4294967296)) * 4294967296 + x % 4294967296 * (y % 4294967296) := by
    rw [← e, ← ex, ← ey]
  rw [exy]
  exact mul64_core _ _ _ _ (mul_bound hx0.1 hx0.2 hy0.1 hy0.2) (mul_bound hx1.1 hx1.2 hy0.1 hy0.2) (mul_bound hx0.1 hx0.2 hy1.1 hy1.2) (mul_bound hx1.1 hx1.2 hy1.1 hy1.2)

theorem bits_Mul64_spec {x y : Int} {K : Int × Int → World → Prop} (hx : 0 ≤ x ∧ x < 18446744073709551616) (hy : 0 ≤ y ∧ y < 18446744073709551616)
    (h : K (x * y / 18446744073709551616, x * y % 18446744073709551616) w0) : C_bits_Mul64 x y K w0 := by
  apply S_bits_Mul64
  unfold F_bits_Mul64
  obtain ⟨b1, b2, b3, b4, b5, b6, b7, b8, e⟩ := mul64_val x y hx hy
  rw [mask32 x hx.1 hx.2, mask32 y hy.1 hy.2]
  simp only [fdiv32]
  refine arith_u64 (by omega) (by omega) ⟨by decide, letZ_mk (arith_u64 (by omega) (by omega) ⟨by decide, letZ_mk (arith_u64 (by omega) (by omega) (arith_u64 (by omega) (by omega) ⟨by decide, letZ_mk (arith_u64 (by omega) (by omega) ?_)⟩))⟩)⟩
  rw [mask32 _ b3.1 b3.2]
  refine arith_u64 (by omega) (by omega) ⟨by decide, letZ_mk (arith_u64 (by omega) (by omega) (arith_u64 (by omega) (by omega) (arith_u64 (by omega) (by omega) (arith_u64 (by omega) (by omega) ⟨by decide, letZ_mk (arith_u64 (by omega) (by omega) (arith_u64' ?_))⟩))))⟩
  rw [e]; exact h

theorem modular_Mul_spec {a b : Int} {K : Int → World → Prop} (ha : 0 ≤ a ∧ a < 18446744073709551616) (hb : 0 ≤ b ∧ b < 18446744073709551616) (h : K ((a * b) % 2305843009213693951) w0) : C_modular_Mul a b K w0 := by
  apply S_modular_Mul
  unfold F_modular_Mul
  refine modular_Reduce_spec ha.1 ha.2 (modular_Reduce_spec hb.1 hb.2 (bits_Mul64_spec (by omega) (by omega) ?_))
  have hm := mul_bound (a := a % 2305843009213693951) (b := b % 2305843009213693951) (A := 2305843009213693950) (B := 2305843009213693950) (by omega) (by omega) (by omega) (by omega)
  have e : a % 2305843009213693951 * (b % 2305843009213693951) % 2305843009213693951 = a * b % 2305843009213693951 := (Int.mul_emod a b _).symm
  generalize a % 2305843009213693951 * (b % 2305843009213693951) = p at *
  have hsh : (2 : Int) ^ min (Int.toNat (3 : Int)) (IntKind.bits .u64) = 8 := rfl
  rw [hsh, mask61 _ (by omega) (by omega), fdiv61]
  dsimp only
  refine ⟨by decide, arith_u64 (by omega) (by omega) ⟨by decide, letZ_mk (arith_u64 (by omega) (by omega) (arith_u64 (by omega) (by omega) (arith_u64 (by omega) (by omega) (modular_Reduce_spec (by omega) (by omega) ?_))))⟩⟩
  have : (p / 18446744073709551616 * 8 + p % 18446744073709551616 / 2305843009213693952 + p % 18446744073709551616 % 2305843009213693952) % 2305843009213693951 = a * b % 2305843009213693951 := by
    rw [← e]; omega
  rw [this]; exact h

theorem pow_step (r a : Int) (m : Nat) (P : Int) : (r * a ^ m) % P = (if m % 2 = 1 then r * a % P else r) * ((a * a) % P) ^ (m / 2) % P := by
  have hm : m = 2 * (m / 2) + m % 2 := by omega
  have e1 : a ^ m = a ^ (m % 2) * (a * a) ^ (m / 2) := by
    conv => lhs; rw [hm]
    have ea : a ^ 2 = a * a := by rw [Int.pow_succ, Int.pow_succ, Int.pow_zero, Int.one_mul]
    rw [Int.pow_add, Int.pow_mul, Int.mul_comm, ea]
  have e2 : ∀ k : Nat, ((a * a) % P) ^ k % P = (a * a) ^ k % P := by
    intro k
    induction k with
    | zero => simp
    | succ k ih => rw [Int.pow_succ, Int.pow_succ, Int.mul_emod, ih, Int.emod_emod_of_dvd _ (Int.dvd_refl P), ← Int.mul_emod]
  rcases Nat.mod_two_eq_zero_or_one m with h | h
  · rw [e1, h, if_neg (by decide)]
    rw [Int.mul_emod r (((a * a) % P) ^ (m / 2)), e2, ← Int.mul_emod]
    simp
  · rw [e1, h, if_pos rfl]
    rw [Int.mul_emod (r * a % P), e2, Int.emod_emod_of_dvd _ (Int.dvd_refl P), ← Int.mul_emod]
    rw [Int.pow_succ, Int.pow_zero, Int.one_mul, Int.mul_assoc]

theorem modular_Pow_spec {a n : Int} {K : Int → World → Prop} (ha : 0 ≤ a ∧ a < 18446744073709551616) (hn : 0 ≤ n ∧ n < 18446744073709551616) (h : K (a ^ n.toNat % 2305843009213693951) w0) : C_modular_Pow a n K w0 := by
  apply S_modular_Pow
  unfold F_modular_Pow
  refine modular_Reduce_spec ha.1 ha.2 ?_
  refine ⟨fun x w => w = w0 ∧ (0 ≤ x.1 ∧ x.1 < 2305843009213693951) ∧ (0 ≤ x.2.1 ∧ x.2.1 < 18446744073709551616) ∧ (0 ≤ x.2.2.1 ∧ x.2.2.1 < 2305843009213693951) ∧ x.2.2.1 * x.1 ^ x.2.1.toNat % 2305843009213693951 = a ^ n.toNat % 2305843009213693951,
    fun x _ => x.2.1.toNat, ?_, ?_⟩
  · refine ⟨rfl, by dsimp only; omega, hn, ⟨by dsimp only; omega, by dsimp only; omega⟩, ?_⟩
    dsimp only
    rw [Int.one_mul]
    generalize n.toNat = k
    induction k with
    | zero => simp
    | succ k ih => rw [Int.pow_succ, Int.pow_succ, Int.mul_emod, ih, Int.emod_emod_of_dvd _ (Int.dvd_refl _), ← Int.mul_emod]
  · rintro ⟨b, m, r, _⟩ w ⟨hw, hb, hm, hr, e⟩ _
    subst hw
    dsimp only at hb hm hr e ⊢
    refine gd_dec (fun hpos => ?_) (fun hpos => ?_)
    · refine ⟨fun y w' => y.1 = (if m.toNat % 2 = 1 then r * b % 2305843009213693951 else r) ∧ w' = w, ⟨by decide, letZ_mk ?_⟩, ?_⟩
      · rw [Int.tmod_eq_emod_of_nonneg hm.1]
        refine gd_eq (fun h1 => ?_) (fun h1 => ?_)
        · exact modular_Mul_spec (by omega) (by omega) ⟨by rw [if_pos (by omega)], rfl⟩
        · exact ⟨by rw [if_neg (by omega)], rfl⟩
      · rintro ⟨y, _⟩ w ⟨rfl, rfl⟩ _
        refine modular_Mul_spec (by omega) (by omega) ⟨by decide, ?_⟩
        rw [Int.tdiv_eq_ediv_of_nonneg hm.1]
        refine arith_u64 (by omega) (by omega) ⟨⟨rfl, by omega, by omega, ?_, ?_⟩, ?_⟩
        · dsimp only; split <;> omega
        · rw [← e, pow_step r b m.toNat]
          congr 2
          rw [show (m / 2).toNat = m.toNat / 2 by omega]
        · omega
    · have : m = 0 := by omega
      subst this
      simp only [Int.toNat_zero, Int.pow_zero, Int.mul_one] at e
      rw [Int.emod_eq_of_lt hr.1 hr.2] at e
      rw [e]; exact h


/-! ### digest -/
abbrev PP : Int := 2305843009213693951
def dJoin (a b : Int × Int) : Int × Int := ((a.1 * b.2 + b.1) % PP, a.2 * b.2 % PP)
def dUnit : Int × Int := (0, 1)
def dLetter (b : Int) : Int × Int := (b + 1, 1103515245)
def dNat (d : Int × Int) : Nat → Int × Int
  | 0 => dUnit
  | k + 1 => dJoin (dNat d k) d
def dOK (d : Int × Int) : Prop := (0 ≤ d.1 ∧ d.1 < PP) ∧ (0 ≤ d.2 ∧ d.2 < PP)
theorem dOK_join (a b : Int × Int) : dOK (dJoin a b) := ⟨⟨Int.emod_nonneg _ (by decide), Int.emod_lt_of_pos _ (by decide)⟩, ⟨Int.emod_nonneg _ (by decide), Int.emod_lt_of_pos _ (by decide)⟩⟩
theorem dOK_unit : dOK dUnit := ⟨⟨by decide, by decide⟩, ⟨by decide, by decide⟩⟩
theorem dOK_nat (d : Int × Int) : ∀ k, dOK (dNat d k)
  | 0 => dOK_unit
  | _ + 1 => dOK_join _ _
theorem dOK_letter {b : Int} (h : 0 ≤ b ∧ b < 256) : dOK (dLetter b) := ⟨⟨by simp only [dLetter]; omega, by simp only [dLetter, PP]; omega⟩, ⟨by simp only [dLetter]; omega, by simp only [dLetter, PP]; omega⟩⟩

theorem emod_mul_add (x y z P : Int) : (x % P * y + z) % P = (x * y + z) % P := by
  rw [Int.add_emod, Int.mul_emod, Int.emod_emod_of_dvd _ (Int.dvd_refl P), ← Int.mul_emod, ← Int.add_emod]
theorem emod_mul' (x y P : Int) : x % P * y % P = x * y % P := by
  rw [Int.mul_emod, Int.emod_emod_of_dvd _ (Int.dvd_refl P), ← Int.mul_emod]
theorem emod_mul_r (x y P : Int) : x * (y % P) % P = x * y % P := by
  rw [Int.mul_emod, Int.emod_emod_of_dvd _ (Int.dvd_refl P), ← Int.mul_emod]

theorem dJoin_assoc (a b c : Int × Int) : dJoin (dJoin a b) c = dJoin a (dJoin b c) := by
  unfold dJoin
  simp only [Prod.mk.injEq]
  constructor
  · rw [emod_mul_add]
    have h0 : (a.1 * (b.2 * c.2 % PP) + (b.1 * c.2 + c.1) % PP) % PP = (a.1 * (b.2 * c.2) + (b.1 * c.2 + c.1) % PP) % PP := by
      rw [Int.add_emod (a.1 * _), emod_mul_r, ← Int.add_emod]
    rw [h0]
    have e : (a.1 * b.2 + b.1) * c.2 + c.1 = a.1 * (b.2 * c.2) + (b.1 * c.2 + c.1) := by rw [Int.add_mul, Int.mul_assoc, Int.add_assoc]
    rw [e]
    conv => rhs; rw [Int.add_emod, Int.emod_emod_of_dvd _ (Int.dvd_refl PP), ← Int.add_emod]
  · rw [emod_mul', emod_mul_r, Int.mul_assoc]
theorem dJoin_unit_l {d : Int × Int} (h : dOK d) : dJoin dUnit d = d := by
  unfold dJoin dUnit
  obtain ⟨x, y⟩ := d
  simp only [dOK] at h
  simp only [Int.zero_mul, Int.zero_add, Int.one_mul, Prod.mk.injEq]
  exact ⟨Int.emod_eq_of_lt h.1.1 h.1.2, Int.emod_eq_of_lt h.2.1 h.2.2⟩
theorem dJoin_unit_r {d : Int × Int} (h : dOK d) : dJoin d dUnit = d := by
  unfold dJoin dUnit
  obtain ⟨x, y⟩ := d
  simp only [dOK] at h
  simp only [Int.mul_one, Int.add_zero, Prod.mk.injEq]
  exact ⟨Int.emod_eq_of_lt h.1.1 h.1.2, Int.emod_eq_of_lt h.2.1 h.2.2⟩
theorem dNat_add {d : Int × Int} (m n : Nat) : dNat d (m + n) = dJoin (dNat d m) (dNat d n) := by
  induction n with
  | zero => rw [Nat.add_zero, dNat, dJoin_unit_r (dOK_nat d m)]
  | succ n ih => rw [← Nat.add_assoc, dNat, ih, dNat, dJoin_assoc]
theorem dNat_mul {d : Int × Int} (hd : dOK d) (m n : Nat) : dNat d (m * n) = dNat (dNat d m) n := by
  induction n with
  | zero => rfl
  | succ n ih => rw [Nat.mul_succ, dNat_add, ih, dNat]
theorem dNat_one {d : Int × Int} (hd : dOK d) : dNat d 1 = d := by rw [dNat, dNat, dJoin_unit_l hd]

theorem digest_Unit_spec {K : Int × Int → World → Prop} (h : ∀ w', Ext w0 w' → K dUnit w') : C_digest_Unit K w0 := by
  apply S_digest_Unit
  unfold F_digest_Unit
  exact (St.init w0).allocK fun b1 w1 s _ _ => s.st0 0 rfl rfl rfl fun w2 s _ => s.ld0 (x := (_, _)) 0 rfl rfl (h _ s.fr)

theorem digest_Letter_spec {b : Int} (hb : 0 ≤ b ∧ b < 256) {K : Int × Int → World → Prop} (h : ∀ w', Ext w0 w' → K (dLetter b) w') : C_digest_Letter b K w0 := by
  apply S_digest_Letter
  unfold F_digest_Letter
  exact (St.init w0).allocK fun b1 w1 s _ _ => arith_u64 (by omega) (by omega) (arith_u64 (by omega) (by omega) (s.st0 0 rfl rfl rfl fun w2 s _ => s.ld0 (x := (_, _)) 0 rfl rfl (h _ s.fr)))

theorem digest_Join_spec {a b : Int × Int} (ha : dOK a) (hb : dOK b) {K : Int × Int → World → Prop} (h : ∀ w', Ext w0 w' → K (dJoin a b) w') : C_digest_Join a b K w0 := by
  apply S_digest_Join
  unfold F_digest_Join
  obtain ⟨⟨a1, a2⟩, ⟨a3, a4⟩⟩ := ha
  obtain ⟨⟨b1, b2⟩, ⟨b3, b4⟩⟩ := hb
  simp only [PP] at a2 a4 b2 b4
  refine (St.init w0).allocK fun b1 w1 s _ _ => s.allocK fun b2 w2 s _ _ => s.allocK fun b3 w3 s _ _ => s.drawK fun w4 s _ _ => ?_
  refine s.ldi 2 0 rfl rfl (s.ldi 1 1 rfl rfl (s.ldi 1 0 rfl rfl (s.ldi 2 1 rfl rfl (s.ldi 1 1 rfl rfl ?_))))
  refine modular_Mul_spec (by omega) (by omega) ⟨s.still 1 1 rfl rfl, s.still 2 1 rfl rfl, s.still 1 0 rfl rfl, ?_⟩
  have hm : 0 ≤ a.1 * b.2 % 2305843009213693951 ∧ a.1 * b.2 % 2305843009213693951 < 2305843009213693951 := ⟨Int.emod_nonneg _ (by decide), Int.emod_lt_of_pos _ (by decide)⟩
  refine modular_Add_spec (by omega) (by omega) ⟨s.still 1 1 rfl rfl, s.still 2 1 rfl rfl, modular_Mul_spec (by omega) (by omega) ?_⟩
  refine s.st0 0 rfl rfl rfl fun w5 s _ => s.ld0 (x := (_, _)) 0 rfl rfl ?_
  have := h _ s.fr
  unfold dJoin at this
  have e : (a.1 * b.2 % 2305843009213693951 + b.1) % 2305843009213693951 = (a.1 * b.2 + b.1) % PP := by
    simp only [PP]
    rw [Int.add_emod, Int.emod_emod_of_dvd _ (Int.dvd_refl _), ← Int.add_emod]
  rw [e]; exact this

theorem digest_Repeat_spec {d : Int × Int} {k : Int} (hd : dOK d) (hk : 0 ≤ k ∧ k ≤ 9223372036854775807) {K : Int × Int → World → Prop} (h : ∀ w', Ext w0 w' → K (dNat d k.toNat) w') : C_digest_Repeat d k K w0 := by
  apply S_digest_Repeat
  unfold F_digest_Repeat
  refine (St.init w0).allocK fun b1 w1 s _ _ => s.allocK fun b2 w2 s _ _ => digest_Unit_spec fun w3 e => (s.ext e).allocK fun b4 w4 s _ _ => s.st0 0 rfl rfl rfl fun w5 s _ => ?_
  refine ⟨fun x w => ∃ d1 r z, St w0 (fun _ => False) [(b4, cells yapi_Digest r), (b2, z), (b1, cells yapi_Digest d1)] w ∧ z.length = 2 ∧ dOK d1 ∧ dOK r ∧ 0 ≤ x.1 ∧ x.1 ≤ 9223372036854775807 ∧ dJoin r (dNat d1 x.1.toNat) = dNat d k.toNat,
    fun x _ => x.1.toNat, ⟨d, dUnit, _, s, rfl, hd, dOK_unit, hk.1, hk.2, dJoin_unit_l (dOK_nat _ _)⟩, ?_⟩
  rintro ⟨m, _⟩ w ⟨d1, r, z, s, hz, hd1, hr, hm0, hm1, e⟩ _
  dsimp only at hm0 hm1 e ⊢
  refine gd_dec (fun hpos => ?_) (fun hpos => ?_)
  · refine ⟨fun _ w' => St w0 (fun _ => False) [(b4, cells yapi_Digest (if m.toNat % 2 = 1 then dJoin r d1 else r)), (b2, z), (b1, cells yapi_Digest d1)] w', ⟨by decide, letZ_mk ?_⟩, ?_⟩
    · rw [Int.tmod_eq_emod_of_nonneg hm0]
      refine gd_eq (fun h1 => ?_) (fun h1 => ?_)
      · refine s.ld0 0 rfl rfl (s.ld0 2 rfl rfl (digest_Join_spec hr hd1 fun w8 e8 => (s.ext e8).st0 0 rfl rfl rfl fun w9 s _ => ?_))
        rw [if_pos (by omega)]; exact s
      · rw [if_neg (by omega)]; exact s
    · rintro _ w7 s _
      refine s.ld0 2 rfl rfl (s.ld0 2 rfl rfl (digest_Join_spec hd1 hd1 fun w8 e8 => (s.ext e8).st0 2 rfl rfl rfl fun w9 s _ => ⟨by decide, ?_⟩))
      rw [Int.tdiv_eq_ediv_of_nonneg hm0]
      refine arith_i64 (by omega) (by omega) ⟨⟨dJoin d1 d1, _, _, s, hz, dOK_join _ _, ?_, by omega, by omega, ?_⟩, by omega⟩
      · split
        · exact dOK_join _ _
        · exact hr
      · rw [← e, show (m / 2).toNat = m.toNat / 2 by omega]
        have e2 : dNat (dJoin d1 d1) (m.toNat / 2) = dNat d1 (2 * (m.toNat / 2)) := by
          rw [dNat_mul hd1]
          congr 1
          rw [dNat, dNat_one hd1]
        have hmm : m.toNat = m.toNat % 2 + 2 * (m.toNat / 2) := by omega
        rw [e2]
        conv => rhs; rw [hmm]
        rw [dNat_add, ← dJoin_assoc]
        rcases Nat.mod_two_eq_zero_or_one m.toNat with h0 | h0
        · rw [if_neg (by omega), h0, dNat, dJoin_unit_r hr]
        · rw [if_pos h0, h0, dNat_one hd1]
  · have : m = 0 := by omega
    subst this
    refine s.ld0 0 rfl rfl (s.st0 1 rfl hz.symm rfl fun w9 s _ => s.ld0 1 rfl rfl ?_)
    have : r = dNat d k.toNat := by rw [← e]; exact (dJoin_unit_r hr).symm
    rw [this]
    exact h _ s.fr

end Go.Proofs.YtcmncfglcjcmhaaGreat

/- What the package weight computes, from its texts. -/
set_option linter.unusedVariables false
set_option linter.unusedSimpArgs false
namespace Go.Proofs.YtcmncfglcjcmhaaGreat
open Go.Den

variable {w0 : World}

abbrev WT := Int × Int × Int × Int × Int × Int
abbrev MX : Int := 1152921504606846976
abbrev BASE : Int := 1103515245
def WT.len (a : WT) : Int := a.1
def WT.lines (a : WT) : Int := a.2.1
def WT.head (a : WT) : Int := a.2.2.1
def WT.tail (a : WT) : Int := a.2.2.2.1
def WT.dig (a : WT) : Int × Int := a.2.2.2.2

structure wOK (a : WT) : Prop where
  len : 0 ≤ a.1 ∧ a.1 ≤ 1152921504606846976
  lines : 0 ≤ a.2.1
  zero : a.2.1 = 0 → a.2.2.1 = a.1 ∧ a.2.2.2.1 = a.1
  pos : a.2.1 ≠ 0 → 0 ≤ a.2.2.1 ∧ a.2.2.1 ≤ a.1 ∧ 0 ≤ a.2.2.2.1 ∧ a.2.2.2.1 ≤ a.1 - a.2.2.1 ∧ a.2.1 ≤ a.1 - a.2.2.1 - a.2.2.2.1 ∧ (a.2.1 = 1 → a.1 - a.2.2.1 - a.2.2.2.1 = 1)
  val : 0 ≤ a.2.2.2.2.1 ∧ a.2.2.2.2.1 < 2305843009213693951
  empty : a.1 = 0 → a.2.2.2.2.1 = 0
  scale : a.2.2.2.2.2 = 1103515245 ^ a.1.toNat % 2305843009213693951

theorem wOK.dOK {a : WT} (h : wOK a) : dOK a.2.2.2.2 :=
  ⟨⟨h.val.1, h.val.2⟩, by rw [h.scale]; exact ⟨Int.emod_nonneg _ (by decide), Int.emod_lt_of_pos _ (by decide)⟩⟩

def wUnit : WT := (0, 0, 0, 0, 0, 1)
def wLetter (b : Int) : WT := if b = 10 then (1, 1, 0, 0, b + 1, 1103515245) else (1, 0, 1, 1, b + 1, 1103515245)
def wJoin (a b : WT) : WT := (a.1 + b.1, a.2.1 + b.2.1, (if a.2.1 = 0 then a.1 + b.2.2.1 else a.2.2.1), (if b.2.1 = 0 then b.1 + a.2.2.2.1 else b.2.2.2.1), dJoin a.2.2.2.2 b.2.2.2.2)
def wRep (a : WT) (k : Int) : WT := if a.1 * k = 0 then wUnit else (a.1 * k, a.2.1 * k, (if a.2.1 = 0 then a.1 * k else a.2.2.1), (if a.2.1 = 0 then a.1 * k else a.2.2.2.1), dNat a.2.2.2.2 k.toNat)

theorem wOK_unit : wOK wUnit := by
  constructor <;> simp [wUnit]
theorem wOK_letter {b : Int} (hb : 0 ≤ b ∧ b < 256) : wOK (wLetter b) := by
  unfold wLetter
  split
  · constructor <;> simp <;> omega
  · constructor <;> simp <;> omega
theorem wOK_join {a b : WT} (ha : wOK a) (hb : wOK b) (hl : a.1 + b.1 ≤ 1152921504606846976) : wOK (wJoin a b) := by
  obtain ⟨a1, a2, a3, a4, a5, a6, a7⟩ := ha
  obtain ⟨b1, b2, b3, b4, b5, b6, b7⟩ := hb
  constructor
  · simp only [wJoin]; omega
  · simp only [wJoin]; omega
  · simp only [wJoin]
    intro h
    have ea : a.2.1 = 0 := by omega
    have eb : b.2.1 = 0 := by omega
    rw [if_pos ea, if_pos eb]
    have := a3 ea
    have := b3 eb
    omega
  · simp only [wJoin]
    intro h
    by_cases ea : a.2.1 = 0
    · by_cases eb : b.2.1 = 0
      · omega
      · rw [if_pos ea, if_neg eb]
        have := a3 ea
        have := b4 eb
        omega
    · by_cases eb : b.2.1 = 0
      · rw [if_neg ea, if_pos eb]
        have := a4 ea
        have := b3 eb
        omega
      · rw [if_neg ea, if_neg eb]
        have := a4 ea
        have := b4 eb
        omega
  · exact (dOK_join _ _).1
  · simp only [wJoin, dJoin]
    intro h
    have ea : a.1 = 0 := by omega
    have eb : b.1 = 0 := by omega
    rw [a6 ea, b6 eb]
    simp
  · simp only [wJoin, dJoin, PP]
    rw [a7, b7, ← Int.mul_emod, ← Int.pow_add]
    congr 2
    omega
theorem dNat_scale (d : Int × Int) (x : Int) (n : Nat) (h : d.2 = x ^ n % 2305843009213693951) : ∀ k, (dNat d k).2 = x ^ (n * k) % 2305843009213693951
  | 0 => by simp [dNat, dUnit]
  | k + 1 => by
    simp only [dNat, dJoin, PP]
    rw [dNat_scale d x n h k, h, ← Int.mul_emod, ← Int.pow_add, Nat.mul_succ]
theorem wOK_rep {a : WT} {k : Int} (ha : wOK a) (hk : 0 ≤ k) (hl : a.1 * k ≤ 1152921504606846976) : wOK (wRep a k) := by
  unfold wRep
  split
  · exact wOK_unit
  · rename_i hne
    obtain ⟨a1, a2, a3, a4, a5, a6, a7⟩ := ha
    have hk1 : 1 ≤ k := by
      rcases Int.lt_or_le 0 k with h | h
      · omega
      · have : k = 0 := by omega
        subst this; simp at hne
    have hnn : 0 ≤ a.1 * k := Int.mul_nonneg a1.1 hk
    have hln : 0 ≤ a.2.1 * k := Int.mul_nonneg a2 hk
    have zl : a.2.1 * k = 0 ↔ a.2.1 = 0 := by
      constructor
      · intro h
        rcases Int.mul_eq_zero.1 h with h | h <;> omega
      · intro h; rw [h]; simp
    constructor
    · exact ⟨hnn, hl⟩
    · exact hln
    · intro h
      have := zl.1 h
      simp [this]
    · intro h
      have h' : a.2.1 ≠ 0 := fun e => h (zl.2 e)
      obtain ⟨p1, p2, p3, p4, p5, p6⟩ := a4 h'
      simp only [if_neg h']
      have e1 : a.1 * k = a.1 * (k - 1) + a.1 := by rw [Int.mul_sub, Int.mul_one]; omega
      have e2 : a.2.1 * k = a.2.1 * (k - 1) + a.2.1 := by rw [Int.mul_sub, Int.mul_one]; omega
      have m1 : a.2.1 * (k - 1) ≤ a.1 * (k - 1) := Int.mul_le_mul_of_nonneg_right (by omega) (by omega)
      have m2 : 0 ≤ a.2.1 * (k - 1) := Int.mul_nonneg a2 (by omega)
      rw [e1, e2]
      generalize hq : a.1 * (k - 1) = q at *
      generalize hr : a.2.1 * (k - 1) = r at *
      refine ⟨by omega, by omega, by omega, by omega, by omega, fun h1 => ?_⟩
      have hr0 : r = 0 := by omega
      have hone : a.2.1 = 1 := by omega
      have hk0 : k - 1 = 0 := by
        rcases Int.mul_eq_zero.1 (hr.trans hr0) with h | h
        · omega
        · exact h
      have : q = 0 := by rw [← hq, hk0]; simp
      have := p6 hone
      omega
    · exact (dOK_nat _ _).1
    · intro h; exact absurd h hne
    · have := dNat_scale a.2.2.2.2 1103515245 a.1.toNat a7 k.toNat
      simp only [this]
      congr 2
      have : (a.1 * k).toNat = a.1.toNat * k.toNat := Int.toNat_mul a1.1 hk
      rw [this]

theorem weight_Unit_spec {K : WT → World → Prop} (h : ∀ w', Ext w0 w' → K wUnit w') : C_weight_Unit K w0 := by
  apply S_weight_Unit
  unfold F_weight_Unit
  exact (St.init w0).allocK fun b1 w1 s _ _ => digest_Unit_spec fun w2 e => (s.ext e).st0 0 rfl rfl rfl fun w3 s _ => s.ld0 (x := (_, _, _, _, _, _)) 0 rfl rfl (h _ s.fr)

theorem weight_Letter_spec {b : Int} (hb : 0 ≤ b ∧ b < 256) {K : WT → World → Prop} (h : ∀ w', Ext w0 w' → K (wLetter b) w') : C_weight_Letter b K w0 := by
  apply S_weight_Letter
  unfold F_weight_Letter
  refine (St.init w0).allocK fun b1 w1 s _ _ => gd_eq (fun h1 => ?_) (fun h1 => ?_)
  · refine digest_Letter_spec hb fun w2 e => (s.ext e).st0 0 rfl rfl rfl fun w3 s _ => s.ld0 (x := (_, _, _, _, _, _)) 0 rfl rfl ?_
    have := h _ s.fr
    rwa [wLetter, if_pos h1] at this
  · refine digest_Letter_spec hb fun w2 e => (s.ext e).st0 0 rfl rfl rfl fun w3 s _ => s.ld0 (x := (_, _, _, _, _, _)) 0 rfl rfl ?_
    have := h _ s.fr
    rwa [wLetter, if_neg h1] at this

theorem weight_Valid_spec {a : WT} (ha : wOK a) {K : Bool → World → Prop} (h : ∀ w', Ext w0 w' → K true w') : C_weight_Valid a K w0 := by
  apply S_weight_Valid
  unfold F_weight_Valid
  obtain ⟨a1, a2, a3, a4, a5, a6, a7⟩ := ha
  refine (St.init w0).allocK fun b1 w1 s _ _ => ?_
  refine ⟨fun x w => x.1 = false ∧ w = w1, s.ldi 0 0 rfl rfl (length_Valid_spec ?_), ?_⟩
  · rw [decide_eq_true a1]
    exact gd_f rfl (s.ldi 0 1 rfl rfl ⟨decide_eq_false (by omega), rfl⟩)
  · rintro ⟨x, _⟩ w2 ⟨rfl, rfl⟩ _
    refine gd_f rfl ⟨fun _ w => w = w2, s.ldi 0 1 rfl rfl (gd_eq (fun hz => ?_) (fun hz => ?_)), ?_⟩
    · obtain ⟨z1, z2⟩ := a3 hz
      refine ⟨fun x w => x.1 = false ∧ w = w2, s.ldi 0 2 rfl rfl (s.ldi 0 0 rfl rfl (gd_f (by simp [z1]) (s.ldi 0 3 rfl rfl (s.ldi 0 0 rfl rfl ⟨by simp [z2], rfl⟩)))), ?_⟩
      rintro ⟨x, _⟩ w ⟨rfl, rfl⟩ _
      exact gd_f rfl rfl
    · obtain ⟨p1, p2, p3, p4, p5, p6⟩ := a4 hz
      refine ⟨fun x w => x.1 = false ∧ w = w2, s.ldi 0 2 rfl rfl (gd_dec (fun h => absurd h (by omega)) (fun _ => s.ldi 0 2 rfl rfl (s.ldi 0 0 rfl rfl (gd_dec (fun h => absurd h (by omega)) (fun _ =>
        s.ldi 0 3 rfl rfl (gd_dec (fun h => absurd h (by omega)) (fun _ => s.ldi 0 3 rfl rfl (s.ldi 0 0 rfl rfl (s.ldi 0 2 rfl rfl (arith_i64 (by omega) (by omega) ⟨decide_eq_false (by omega), rfl⟩))))))))) ), ?_⟩
      rintro ⟨x, _⟩ w ⟨rfl, rfl⟩ _
      refine gd_f rfl (s.ldi 0 0 rfl rfl (s.ldi 0 2 rfl rfl (arith_i64 (by omega) (by omega) (s.ldi 0 3 rfl rfl (arith_i64 (by omega) (by omega) ?_)))))
      refine ⟨fun x w' => x.1 = false ∧ w' = w, s.ldi 0 1 rfl rfl (gd_dec (fun h => absurd h (by omega)) (fun _ => s.ldi 0 1 rfl rfl (gd_eq (fun h1 => ⟨by simp [p6 h1], rfl⟩) (fun _ => ⟨rfl, rfl⟩)))), ?_⟩
      rintro ⟨x, _⟩ w ⟨rfl, rfl⟩ _
      exact gd_f rfl rfl
    · rintro _ w rfl _
      refine ⟨fun x w' => x.1 = false ∧ w' = w, ?_, ?_⟩
      · have e4 : ∀ o, (Addr.add (Addr.add ⟨b1, 0, none⟩ 4) o) = Addr.add ⟨b1, 0, none⟩ (4 + o) := fun o => Addr.add_add _ _ _
        simp only [e4]
        refine s.ldi 0 4 rfl rfl (gd_dec (fun h => absurd h (by omega)) (fun _ => s.ldi 0 0 rfl rfl (gd_eq (fun h0 => s.ldi 0 4 rfl rfl ⟨by simp [a6 h0], trivial⟩) (fun _ => ⟨trivial, trivial⟩))))
      · rintro ⟨x, _⟩ w ⟨rfl, rfl⟩ _
        have e4 : ∀ o, (Addr.add (Addr.add ⟨b1, 0, none⟩ 4) o) = Addr.add ⟨b1, 0, none⟩ (4 + o) := fun o => Addr.add_add _ _ _
        simp only [e4]
        refine gd_f rfl (s.drawK fun w9 s _ _ => s.ldi 0 5 rfl rfl (s.ldi 0 0 rfl rfl (arith_u64 (by omega) (by omega) (modular_Pow_spec (by decide) (by omega) ⟨s.still 0 5 rfl rfl, ?_⟩))))
        have : (a.2.2.2.2.2 == 1103515245 ^ a.1.toNat % 2305843009213693951) = true := by rw [a7]; simp
        rw [this]
        exact h _ s.fr


theorem weight_Join_spec {a b : WT} (ha : wOK a) (hb : wOK b) {K : WT × Value → World → Prop} (hl : a.1 + b.1 ≤ 1152921504606846976) (h : ∀ w', Ext w0 w' → K (wJoin a b, .nilIface) w') : C_weight_Join a b K w0 := by
  apply S_weight_Join
  unfold F_weight_Join
  have hj := wOK_join ha hb hl
  have da := ha.dOK
  have db := hb.dOK
  have la : a.2.1 ≤ a.1 := by
    by_cases e : a.2.1 = 0
    · rw [e]; exact ha.len.1
    · have := ha.pos e; omega
  have lb : b.2.1 ≤ b.1 := by
    by_cases e : b.2.1 = 0
    · rw [e]; exact hb.len.1
    · have := hb.pos e; omega
  have ha2 := ha.len
  have hb2 := hb.len
  have ha3 := ha.lines
  have hb3 := hb.lines
  refine (St.init w0).allocK fun b1 w1 s _ _ => s.allocK fun b2 w2 s _ _ => s.allocK fun b3 w3 s _ _ => ?_
  refine ⟨fun x w => x.1 = false ∧ St w0 (fun _ => False) [(b3, [.int .i64 0, .int .i64 0, .int .i64 0, .int .i64 0, .int .u64 0, .int .u64 0]), (b2, cells yapi_Weight b), (b1, cells yapi_Weight a)] w, s.ld0 2 rfl rfl (weight_Valid_spec ha fun w5 e => ?_), ?_⟩
  · exact gd_f rfl ((s.ext e).ld0 1 rfl rfl (weight_Valid_spec hb fun w6 e6 => ⟨rfl, (s.ext e).ext e6⟩))
  · rintro ⟨x, _⟩ w4 ⟨rfl, s⟩ _
    refine gd_f rfl (s.ldi 2 0 rfl rfl (s.ldi 1 0 rfl rfl (length_Add_spec ha.len hb.len (fun _ => nilIfc_nil (gd_f rfl ?_)) (fun h => absurd h (by omega)))))
    refine ⟨fun x w => ∃ b4, x.1 = ⟨b4, 0, none⟩ ∧ St w0 (fun _ => False) [(b4, [.int .i64 (a.1 + b.1), .int .i64 (a.2.1 + b.2.1), .int .i64 a.2.2.1, .int .i64 b.2.2.2.1, .int .u64 (dJoin a.2.2.2.2 b.2.2.2.2).1, .int .u64 (dJoin a.2.2.2.2 b.2.2.2.2).2]), (b3, [.int .i64 0, .int .i64 0, .int .i64 0, .int .i64 0, .int .u64 0, .int .u64 0]), (b2, cells yapi_Weight b), (b1, cells yapi_Weight a)] w, ?_, ?_⟩
    · refine s.drawK fun w11 s _ _ => s.ldi 2 1 rfl rfl (s.ldi 1 1 rfl rfl (arith_i64 (by omega) (by omega) (s.ldi 2 2 rfl rfl (s.ldi 1 3 rfl rfl (s.ld 2 4 rfl rfl (s.ld 1 4 rfl rfl ⟨?_, ?_⟩))))))
      · refine digest_Join_spec da db fun w12 e => ?_
        have s := s.ext e
        refine ⟨s.still 1 3 rfl rfl, s.still 2 2 rfl rfl, s.still 1 1 rfl rfl, s.still 2 1 rfl rfl, s.allocK fun b4 w13 s _ _ => ⟨s.still 2 3 rfl rfl, s.still 3 2 rfl rfl, s.still 2 1 rfl rfl, s.still 3 1 rfl rfl, s.st0 0 rfl rfl rfl fun w14 s _ => ⟨b4, rfl, s⟩⟩⟩
      · refine s.allocK fun b4 w13 s _ _ => ⟨s.still 2 4 rfl rfl, s.still 3 4 rfl rfl, s.still 2 3 rfl rfl, s.still 3 2 rfl rfl, s.still 2 1 rfl rfl, s.still 3 1 rfl rfl, digest_Join_spec da db fun w12 e => ?_⟩
        have s := s.ext e
        exact ⟨s.still 2 3 rfl rfl, s.still 3 2 rfl rfl, s.still 2 1 rfl rfl, s.still 3 1 rfl rfl, s.st0 0 rfl rfl rfl fun w14 s _ => ⟨b4, rfl, s⟩⟩
    · rintro ⟨x, _⟩ w10 ⟨b4, rfl, s⟩ _
      refine ⟨fun _ w => St w0 (fun _ => False) [(b4, [.int .i64 (a.1 + b.1), .int .i64 (a.2.1 + b.2.1), .int .i64 (if a.2.1 = 0 then a.1 + b.2.2.1 else a.2.2.1), .int .i64 b.2.2.2.1, .int .u64 (dJoin a.2.2.2.2 b.2.2.2.2).1, .int .u64 (dJoin a.2.2.2.2 b.2.2.2.2).2]), (b3, [.int .i64 0, .int .i64 0, .int .i64 0, .int .i64 0, .int .u64 0, .int .u64 0]), (b2, cells yapi_Weight b), (b1, cells yapi_Weight a)] w, s.ldi 3 1 rfl rfl (gd_eq (fun hz => ?_) (fun hz => ?_)), ?_⟩
      · have : 0 ≤ b.2.2.1 ∧ b.2.2.1 ≤ b.1 := by
          by_cases e : b.2.1 = 0
          · have := hb.zero e; omega
          · have := hb.pos e; omega
        refine s.ldi 3 0 rfl rfl (s.ldi 2 2 rfl rfl (arith_i64 (by omega) (by omega) (s.st 0 2 rfl (by simp) rfl fun w19 s _ => ?_)))
        rw [if_pos hz]; exact s
      · rw [if_neg hz]; exact s
      · rintro _ w18 s _
        refine ⟨fun _ w => St w0 (fun _ => False) [(b4, cells yapi_Weight (wJoin a b)), (b3, [.int .i64 0, .int .i64 0, .int .i64 0, .int .i64 0, .int .u64 0, .int .u64 0]), (b2, cells yapi_Weight b), (b1, cells yapi_Weight a)] w, s.ldi 2 1 rfl rfl (gd_eq (fun hz => ?_) (fun hz => ?_)), ?_⟩
        · have : 0 ≤ a.2.2.2.1 ∧ a.2.2.2.1 ≤ a.1 := by
            by_cases e : a.2.1 = 0
            · have := ha.zero e; omega
            · have := ha.pos e; omega
          refine s.ldi 2 0 rfl rfl (s.ldi 3 3 rfl rfl (arith_i64 (by omega) (by omega) (s.st 0 3 rfl (by simp) rfl fun w19 s _ => ?_)))
          have e : cells yapi_Weight (wJoin a b) = splice [.int .i64 (a.1 + b.1), .int .i64 (a.2.1 + b.2.1), .int .i64 (if a.2.1 = 0 then a.1 + b.2.2.1 else a.2.2.1), .int .i64 b.2.2.2.1, .int .u64 (dJoin a.2.2.2.2 b.2.2.2.2).1, .int .u64 (dJoin a.2.2.2.2 b.2.2.2.2).2] 3 [.int .i64 (b.1 + a.2.2.2.1)] := by
            simp [cells, wJoin, splice, hz]
          rw [e]; exact s
        · have e : cells yapi_Weight (wJoin a b) = [.int .i64 (a.1 + b.1), .int .i64 (a.2.1 + b.2.1), .int .i64 (if a.2.1 = 0 then a.1 + b.2.2.1 else a.2.2.1), .int .i64 b.2.2.2.1, .int .u64 (dJoin a.2.2.2.2 b.2.2.2.2).1, .int .u64 (dJoin a.2.2.2.2 b.2.2.2.2).2] := by
            simp [cells, wJoin, hz]
          rw [e]; exact s
        · rintro _ w20 s _
          exact s.ld0 0 rfl rfl (s.st0 1 rfl rfl rfl fun w22 s _ => s.ld0 1 rfl rfl (h _ s.fr))

theorem weight_Repeat_spec {a : WT} {k : Int} (ha : wOK a) (hk : 0 ≤ k ∧ k ≤ 9223372036854775807) {K : WT × Value → World → Prop} (hl : a.1 * k ≤ 1152921504606846976) (h : ∀ w', Ext w0 w' → K (wRep a k, .nilIface) w') : C_weight_Repeat a k K w0 := by
  apply S_weight_Repeat
  unfold F_weight_Repeat
  have da := ha.dOK
  have la : a.2.1 ≤ a.1 := by
    by_cases e : a.2.1 = 0
    · rw [e]; exact ha.len.1
    · have := ha.pos e; omega
  have ha2 := ha.len
  have ha3 := ha.lines
  have hlk : 0 ≤ a.2.1 * k ∧ a.2.1 * k ≤ 1152921504606846976 := ⟨Int.mul_nonneg ha3 hk.1, Int.le_trans (Int.mul_le_mul_of_nonneg_right la hk.1) hl⟩
  refine (St.init w0).allocK fun b1 w1 s _ _ => s.allocK fun b2 w2 s _ _ => s.ld0 1 rfl rfl (weight_Valid_spec ha fun w3 e => ?_)
  have s := s.ext e
  refine gd_f rfl (gd_dec (fun h => absurd h (by omega)) (fun _ => s.ldi 1 0 rfl rfl (length_Mul_spec ha.len hk.1 (fun _ => nilIfc_nil (gd_f rfl (gd_eq (fun hz => ?_) (fun hz => ?_)))) (fun h => absurd h (by omega)))))
  · refine weight_Unit_spec fun w8 e => (s.ext e).st0 0 rfl rfl rfl fun w9 s _ => s.ld0 0 rfl rfl ?_
    have := h _ s.fr
    rwa [wRep, if_pos hz] at this
  · refine ⟨fun x w => ∃ b4, x.1 = ⟨b4, 0, none⟩ ∧ St w0 (fun _ => False) [(b4, [.int .i64 (a.1 * k), .int .i64 (a.2.1 * k), .int .i64 a.2.2.1, .int .i64 a.2.2.2.1, .int .u64 (dNat a.2.2.2.2 k.toNat).1, .int .u64 (dNat a.2.2.2.2 k.toNat).2]), (b2, [.int .i64 0, .int .i64 0, .int .i64 0, .int .i64 0, .int .u64 0, .int .u64 0]), (b1, cells yapi_Weight a)] w, ?_, ?_⟩
    · refine s.drawK fun w11 s _ _ => s.ldi 1 1 rfl rfl (arith_i64 (by omega) (by omega) (s.ldi 1 2 rfl rfl (s.ldi 1 3 rfl rfl (s.ld 1 4 rfl rfl ⟨?_, ?_⟩))))
      · refine digest_Repeat_spec da hk fun w12 e => ?_
        have s := s.ext e
        refine ⟨s.still 1 3 rfl rfl, s.still 1 2 rfl rfl, s.still 1 1 rfl rfl, s.allocK fun b4 w13 s _ _ => ⟨s.still 2 3 rfl rfl, s.still 2 2 rfl rfl, s.still 2 1 rfl rfl, s.st0 0 rfl rfl rfl fun w14 s _ => ⟨b4, rfl, s⟩⟩⟩
      · refine s.allocK fun b4 w13 s _ _ => ⟨s.still 2 4 rfl rfl, s.still 2 3 rfl rfl, s.still 2 2 rfl rfl, s.still 2 1 rfl rfl, digest_Repeat_spec da hk fun w12 e => ?_⟩
        have s := s.ext e
        exact ⟨s.still 2 3 rfl rfl, s.still 2 2 rfl rfl, s.still 2 1 rfl rfl, s.st0 0 rfl rfl rfl fun w14 s _ => ⟨b4, rfl, s⟩⟩
    · rintro ⟨x, _⟩ w10 ⟨b4, rfl, s⟩ _
      refine ⟨fun _ w => St w0 (fun _ => False) [(b4, cells yapi_Weight (wRep a k)), (b2, [.int .i64 0, .int .i64 0, .int .i64 0, .int .i64 0, .int .u64 0, .int .u64 0]), (b1, cells yapi_Weight a)] w, s.ldi 2 1 rfl rfl (gd_eq (fun h0 => ?_) (fun h0 => ?_)), ?_⟩
      · refine s.st 0 2 rfl (by simp) rfl fun w19 s _ => s.st 0 3 rfl (by simp [splice]) rfl fun w20 s _ => ?_
        have e : cells yapi_Weight (wRep a k) = [.int .i64 (a.1 * k), .int .i64 (a.2.1 * k), .int .i64 (a.1 * k), .int .i64 (a.1 * k), .int .u64 (dNat a.2.2.2.2 k.toNat).1, .int .u64 (dNat a.2.2.2.2 k.toNat).2] := by
          simp [cells, wRep, hz, h0]
        rw [e]; exact s
      · have e : cells yapi_Weight (wRep a k) = [.int .i64 (a.1 * k), .int .i64 (a.2.1 * k), .int .i64 a.2.2.1, .int .i64 a.2.2.2.1, .int .u64 (dNat a.2.2.2.2 k.toNat).1, .int .u64 (dNat a.2.2.2.2 k.toNat).2] := by
          simp [cells, wRep, hz, h0]
        rw [e]; exact s
      · rintro _ w20 s _
        exact s.ld0 0 rfl rfl (s.st0 1 rfl rfl rfl fun w22 s _ => s.ld0 1 rfl rfl (h _ s.fr))

end Go.Proofs.YtcmncfglcjcmhaaGreat

/- What the package intern computes, from its texts: a store in memory and the list that it stands for. -/
set_option linter.unusedVariables false
set_option linter.unusedSimpArgs false
namespace Go.Proofs.YtcmncfglcjcmhaaGreat
open Go.Den

variable {w0 : World}

/-! ### The list that a store stands for -/
abbrev RT := Int × Int × Int × Int × Int
abbrev ET := RT × WT × Int × Bool
def eZero : ET := ((0, 0, 0, 0, 0), wUnit, 0, true)
def eAt (L : List ET) (id : Int) : ET := if id = 0 then eZero else L.getD (id - 1).toNat eZero
def mkLetter (b : Int) : ET := ((1, b, 0, 0, 0), wLetter b, 0, true)
def mkPair (L : List ET) (l r : Int) : ET := ((2, 0, l, r, 0), wJoin (eAt L l).2.1 (eAt L r).2.1,
  1 + (if (eAt L l).2.2.1 < (eAt L r).2.2.1 then (eAt L r).2.2.1 else (eAt L l).2.2.1),
  (eAt L l).2.2.2 && (eAt L r).2.2.2 && decide (-1 ≤ (eAt L l).2.2.1 - (eAt L r).2.2.1) && decide ((eAt L l).2.2.1 - (eAt L r).2.2.1 ≤ 1))
def mkPower (L : List ET) (x k : Int) : ET := ((3, 0, x, 0, k), wRep (eAt L x).2.1 k, 1 + (eAt L x).2.2.1, false)

def idx (L : List ET) : List (RT × Int) := L.zipIdx.map fun p => (p.1.1, (p.2 : Int) + 1)
abbrev lkR (L : List ET) (r : RT) : Option Int := lk (kt := yapi_Rule) (vt := .int .i64) (idx L) r

inductive Grow : List ET → Prop
  | nil : Grow []
  | letter {L : List ET} {b : Int} : Grow L → 0 ≤ b → b < 256 → lkR L (mkLetter b).1 = none → Grow (L ++ [mkLetter b])
  | pair {L : List ET} {l r : Int} : Grow L → 1 ≤ l → l ≤ L.length → 1 ≤ r → r ≤ L.length → (eAt L l).2.1.1 + (eAt L r).2.1.1 ≤ 1152921504606846976 → lkR L (mkPair L l r).1 = none → Grow (L ++ [mkPair L l r])
  | power {L : List ET} {x k : Int} : Grow L → 1 ≤ x → x ≤ L.length → 2 ≤ k → (eAt L x).2.1.1 * k ≤ 1152921504606846976 → lkR L (mkPower L x k).1 = none → Grow (L ++ [mkPower L x k])

structure EOK (i : Nat) (e : ET) : Prop where
  w : wOK e.2.1
  pos : 1 ≤ e.2.1.1
  d : 0 ≤ e.2.2.1 ∧ e.2.2.1 ≤ i

theorem eAt_get {L : List ET} {id : Int} (h1 : 1 ≤ id) (h2 : id ≤ L.length) : L[(id - 1).toNat]? = some (eAt L id) := by
  have hl : (id - 1).toNat < L.length := by omega
  unfold eAt
  rw [if_neg (by omega), List.getD_eq_getElem?_getD, List.getElem?_eq_getElem hl]
  rfl
theorem Grow.ok {L : List ET} (g : Grow L) : ∀ (i : Nat) (e : ET), L[i]? = some e → EOK i e := by
  induction g with
  | nil => intro i e h; simp at h
  | @letter L b g h0 h1 _ ih =>
    intro i e h
    rw [List.getElem?_append] at h
    split at h
    · exact ih i e h
    · have : i - L.length = 0 := by
        rcases Nat.eq_zero_or_pos (i - L.length) with h' | h'
        · exact h'
        · rw [List.getElem?_eq_none (by simp only [List.length_cons, List.length_nil]; omega)] at h; cases h
      rw [this] at h
      simp only [List.getElem?_cons_zero, Option.some.injEq] at h
      subst h
      refine ⟨wOK_letter ⟨h0, h1⟩, ?_, ?_⟩
      · simp only [mkLetter, wLetter]; split <;> exact Int.le_refl _
      · simp only [mkLetter]; omega
  | @pair L l r g hl1 hl2 hr1 hr2 hlen _ ih =>
    intro i e h
    rw [List.getElem?_append] at h
    split at h
    · exact ih i e h
    · have : i - L.length = 0 := by
        rcases Nat.eq_zero_or_pos (i - L.length) with h' | h'
        · exact h'
        · rw [List.getElem?_eq_none (by simp only [List.length_cons, List.length_nil]; omega)] at h; cases h
      rw [this] at h
      simp only [List.getElem?_cons_zero, Option.some.injEq] at h
      subst h
      have a := ih _ _ (eAt_get hl1 hl2)
      have b := ih _ _ (eAt_get hr1 hr2)
      have ap := a.pos
      have bp := b.pos
      have ad := a.d
      have bd := b.d
      refine ⟨wOK_join a.w b.w hlen, ?_, ?_⟩
      · simp only [mkPair, wJoin]; omega
      · simp only [mkPair]; split <;> omega
  | @power L x k g hx1 hx2 hk hlen _ ih =>
    intro i e h
    rw [List.getElem?_append] at h
    split at h
    · exact ih i e h
    · have : i - L.length = 0 := by
        rcases Nat.eq_zero_or_pos (i - L.length) with h' | h'
        · exact h'
        · rw [List.getElem?_eq_none (by simp only [List.length_cons, List.length_nil]; omega)] at h; cases h
      rw [this] at h
      simp only [List.getElem?_cons_zero, Option.some.injEq] at h
      subst h
      have a := ih _ _ (eAt_get hx1 hx2)
      have ap := a.pos
      have ad := a.d
      have hm : 1 * 1 ≤ (eAt L x).2.1.1 * k := Int.mul_le_mul ap (by omega) (by decide) (by omega)
      refine ⟨wOK_rep a.w (by omega) hlen, ?_, ?_⟩
      · simp only [mkPower, wRep]
        rw [if_neg (by omega)]
        simp only; omega
      · simp only [mkPower]; omega
theorem Grow.at_ {L : List ET} (g : Grow L) {id : Int} (h1 : 0 ≤ id) (h2 : id ≤ L.length) : wOK (eAt L id).2.1 ∧ 0 ≤ (eAt L id).2.2.1 ∧ (eAt L id).2.2.1 ≤ L.length ∧ (1 ≤ id → 1 ≤ (eAt L id).2.1.1) := by
  by_cases h : id = 0
  · subst h
    refine ⟨?_, ?_, ?_, fun h => by omega⟩
    · simp only [eAt, if_true, eZero]; exact wOK_unit
    · simp [eAt, eZero]
    · simp [eAt, eZero]
  · have := g.ok _ _ (eAt_get (by omega) h2)
    have d := this.d
    exact ⟨this.w, d.1, by omega, fun _ => this.pos⟩

theorem idx_append (L : List ET) (e : ET) : idx (L ++ [e]) = idx L ++ [(e.1, (L.length : Int) + 1)] := by
  simp [idx, List.zipIdx_append]
def known (L : List ET) (id : Int) : Bool := decide (0 ≤ id ∧ id ≤ L.length)
theorem lkR_pos {L : List ET} {r : RT} {i : Int} (h : lkR L r = some i) : 1 ≤ i ∧ i ≤ L.length := by
  unfold lkR lk at h
  cases hf : (idx L).find? (fun p => beqT yapi_Rule r p.1) with
  | none => rw [hf] at h; cases h
  | some p =>
    rw [hf] at h
    simp only [Option.map_some, Option.some.injEq] at h
    have hm := List.mem_of_find?_eq_some hf
    unfold idx at hm
    obtain ⟨q, hq, rfl⟩ := List.mem_map.1 hm
    obtain ⟨a, b⟩ := q
    have := (List.mem_zipIdx hq).2.1
    have h' : (b : Int) + 1 = i := h
    omega

/-- what a store answers, and the list after it -/
def pFind (L : List ET) (most : Int) (r : RT) : Int × Value := match lkR L r with
  | some i => (i, .nilIface)
  | none => if most ≤ L.length then (0, errV 3) else (0, .nilIface)
def pAdd (L : List ET) (most : Int) (e : ET) : List ET × (Int × Value) := match lkR L e.1 with
  | some i => (L, (i, .nilIface))
  | none => if most ≤ L.length then (L, (0, errV 3)) else (L ++ [e], ((L.length : Int) + 1, .nilIface))
def pLetter (L : List ET) (most b : Int) : List ET × (Int × Value) := pAdd L most (mkLetter b)
def pPair (L : List ET) (most l r : Int) : List ET × (Int × Value) :=
  if known L l = false ∨ known L r = false then (L, (0, errV 1)) else
  if l = 0 then (L, (r, .nilIface)) else
  if r = 0 then (L, (l, .nilIface)) else
  if 1152921504606846976 < (eAt L l).2.1.1 + (eAt L r).2.1.1 then (L, (0, errV 2)) else pAdd L most (mkPair L l r)
def pPower (L : List ET) (most x k : Int) : List ET × (Int × Value) :=
  if known L x = false ∨ k < 0 then (L, (0, errV 1)) else
  if k = 0 ∨ x = 0 then (L, (0, .nilIface)) else
  if k = 1 then (L, (x, .nilIface)) else
  if 1152921504606846976 < (eAt L x).2.1.1 * k then (L, (0, errV 2)) else pAdd L most (mkPower L x k)

/-! ### A store in memory -/
structure Sto (B : Nat → Prop) (w : World) (p : Addr) (most : Int) (L : List ET) : Prop where
  grow : Grow L
  most0 : 0 ≤ most ∧ most ≤ 1048576
  len : (L.length : Int) ≤ most
  mem : ∃ sl m, At w p [.int .i64 most, .slice sl.a sl.len sl.cap, .map (some m)] ∧ Wr w p 3 ∧ MapIs yapi_Rule (.int .i64) w m (idx L) ∧ Own yintern_entry w sl L ∧
    p.block ≠ m ∧ ¬ blk sl p.block ∧ ¬ blk sl m ∧ B p.block ∧ B m ∧ ∀ b, blk sl b → B b
  lt : ∀ b, B b → b < w.heap.size

theorem Sto.fr {B F : Nat → Prop} {w w' : World} {p : Addr} {most : Int} {L : List ET} (s : Sto B w p most L) (f : Fr F w w') (h : ∀ b, B b → ¬ F b) : Sto B w' p most L := by
  obtain ⟨sl, m, h1, h2, h3, h4, h5, h6, h7, h8, h9, h10⟩ := s.mem
  exact ⟨s.grow, s.most0, s.len, ⟨sl, m, h1.fr f (h _ h8), h2.fr f (h _ h8), h3.fr f (h _ h9), h4.fr f (fun b hb => h _ (h10 b hb)), h5, h6, h7, h8, h9, h10⟩, fun b hb => Nat.lt_of_lt_of_le (s.lt b hb) f.size⟩
theorem Sto.ext {B : Nat → Prop} {w w' : World} {p : Addr} {most : Int} {L : List ET} (s : Sto B w p most L) (f : Ext w w') : Sto B w' p most L := s.fr f fun _ _ h => h

/-! ### What the tables say of keys -/
noncomputable def mapElem (t : TypeId) : TypeId := match P.underlying t with
  | some (.map _ e) => e
  | _ => 0
theorem eqRule : eqOK P 2 t_api_Rule yapi_Rule = true := by kernel_rfl
theorem mapRule : P.underlying t_map_api_Rule_api_ID = some (.map t_api_Rule (mapElem t_map_api_Rule_api_ID)) := by kernel_rfl
theorem zeroRule : zeroOf P (mapElem t_map_api_Rule_api_ID) = some (val (.int .i64) (0 : Int)) := by kernel_rfl

/-! ### The functions -/
theorem intern_New_spec {most : Int} {K : Option Addr → World → Prop}
    (h : ∀ p w' B, Ext w0 w' → (∀ b, B b → w0.heap.size ≤ b) → Sto B w' p (if most < 0 then 0 else if 1048576 < most then 1048576 else most) [] → K (some p) w') : C_intern_New most K w0 := by
  apply S_intern_New
  unfold F_intern_New
  refine length_Clip_spec ?_
  have e1 := alloc_ext w0 (.map #[] 0)
  have n1 := alloc_new w0 (.map #[] 0)
  refine allocK_mk ?_
  refine (St.init (w0.alloc (.map #[] 0))).allocK fun b w s e hb => ?_
  have hsz : (w0.alloc (.map #[] 0)).heap.size = w0.heap.size + 1 := by simp
  obtain ⟨_, _, t, ht⟩ := s.loc _ (List.mem_cons_self ..)
  have hm : w.heap[w0.heap.size]? = some (.map #[] 0) := by
    rw [e.same _ (by rw [hsz]; omega) (fun h => h)]; exact n1
  refine h _ w (fun x => x = b ∨ x = w0.heap.size) (e1.trans e) (fun x hx => by omega) ⟨.nil, ?_, ?_, ⟨⟨none, 0, 0⟩, w0.heap.size, s.at_ (i := 0) rfl, wr_block ht, ⟨#[], 0, hm, by simp [idx]⟩, .none, ?_, ?_, ?_, Or.inl rfl, Or.inr rfl, ?_⟩, ?_⟩
  · split
    · omega
    · split <;> omega
  · simp only [List.length_nil]
    split
    · omega
    · split <;> omega
  · simp only; omega
  · rintro ⟨q, hq, _⟩; cases hq
  · rintro ⟨q, hq, _⟩; cases hq
  · rintro x ⟨q, hq, _⟩; cases hq
  · rintro x (rfl | rfl)
    · exact s.lt (List.mem_cons_self ..)
    · exact (Array.getElem?_eq_some_iff.1 hm).1

variable {B : Nat → Prop} {p : Addr} {most : Int} {L : List ET}

theorem intern_known_spec {id : Int} (st : Sto B w0 p most L) {K : Bool → World → Prop} (h : K (known L id) w0) : C_intern_Store_known (some p) id K w0 := by
  apply S_intern_Store_known
  unfold F_intern_Store_known
  obtain ⟨sl, m, h1, _, _, h4, _⟩ := st.mem
  have e := h4.view.len
  refine gd_dec (fun g => nonNil_some ⟨sl, h1.sub 1 rfl, ?_⟩) (fun g => ?_)
  · have : decide (id ≤ (sl.len : Int)) = known L id := by simp [known, g, e]
    rw [this]; exact h
  · have : false = known L id := by simp [known, g]
    rw [this]; exact h

theorem intern_at_spec {id : Int} (st : Sto B w0 p most L) (hk : known L id = true) {K : ET → World → Prop} (h : ∀ w', Ext w0 w' → K (eAt L id) w') : C_intern_Store_at (some p) id K w0 := by
  apply S_intern_Store_at
  unfold F_intern_Store_at
  have hk' := of_decide_eq_true hk
  obtain ⟨sl, m, h1, _, _, h4, _⟩ := st.mem
  refine (St.init w0).allocK fun b1 w1 s e1 _ => gd_eq (fun hi => weight_Unit_spec fun w2 e => (s.ext e).st0 0 rfl rfl rfl fun w3 s _ => s.ld0 (x := ((_, _, _, _, _), (_, _, _, _, _, _), _, _)) 0 rfl rfl ?_) (fun hi => nonNil_some ⟨sl, (h1.ext e1).sub 1 rfl, arith_i64 ?_ ?_ ?_⟩)
  · have := h w3 s.fr
    unfold eAt at this
    rw [if_pos hi] at this
    exact this
  · omega
  · have := st.most0; have := st.len; omega
  · have hx := eAt_get (L := L) (id := id) (by omega) hk'.2
    refine (h4.view.ext e1).idx (n := (id - 1).toNat) (by omega) hx rfl fun q hq => ⟨_, hq, s.st0 0 rfl (by rw [cells_length]; rfl) rfl fun w3 s _ => s.ld0 0 rfl rfl (h _ s.fr)⟩

theorem intern_find_spec {r : RT} (st : Sto B w0 p most L) {K : Int × Value → World → Prop} (h : ∀ w', Ext w0 w' → K (pFind L most r) w') : C_intern_Store_find (some p) r K w0 := by
  apply S_intern_Store_find
  unfold F_intern_Store_find
  obtain ⟨sl, m, h1, _, h3, h4, _⟩ := st.mem
  have hlen := h4.view.len
  refine (St.init w0).allocK fun b1 w1 s _ _ => s.drawK fun w2 s _ _ => nonNil_some ⟨some m, (h1.ext s.fr).sub 2 rfl, s.ld0 0 rfl rfl ?_⟩
  refine ⟨_, _, lk2_run (by decide) mapRule eqRule (by simp) zeroRule (h3.ext s.fr) r, ?_⟩
  unfold pFind lkR at h
  cases hl : lk (kt := yapi_Rule) (vt := .int .i64) (idx L) r with
  | some i =>
    rw [hl] at h
    exact gd_t rfl (h _ s.fr)
  | none =>
    rw [hl] at h
    refine gd_f rfl (s.drawK fun w3 s _ _ => nonNil_some ⟨sl, (h1.ext s.fr).sub 1 rfl, nonNil_some ⟨most, (h1.ext s.fr).sub 0 rfl, gd_dec (fun g => ?_) (fun g => ?_)⟩⟩)
    · have := h _ s.fr
      rw [if_pos (by omega)] at this
      exact this
    · have := h _ s.fr
      rw [if_neg (by omega)] at this
      exact this

end Go.Proofs.YtcmncfglcjcmhaaGreat

/- The calls that change a store of the package intern, from their texts. -/
set_option linter.unusedVariables false
set_option linter.unusedSimpArgs false
namespace Go.Proofs.YtcmncfglcjcmhaaGreat
open Go.Den

variable {w0 : World} {B : Nat → Prop} {p : Addr} {most : Int} {L : List ET}

theorem intern_add_spec {e : ET} (st : Sto B w0 p most L) (hn : lkR L e.1 = none) (hl : (L.length : Int) < most) (hg : Grow (L ++ [e])) {K : Int → World → Prop}
    (h : ∀ w' B', Step B B' w0 w' → Sto B' w' p most (L ++ [e]) → K ((L.length : Int) + 1) w') : C_intern_Store_add (some p) e K w0 := by
  apply S_intern_Store_add
  unfold F_intern_Store_add
  have hmb := st.most0
  obtain ⟨sl, m, h1, h2, h3, h4, n1, n2, n3, b1, b2, b3⟩ := st.mem
  refine (St.start w0 st.lt).allocK fun a1 w1 s e1 _ => s.drawK fun w2 s e2 _ => nonNil_some ⟨sl, ((h1.ext e1).ext e2).sub 1 rfl, s.ld0 0 rfl rfl (s.allocK fun a5 w3 s e3 _ => ⟨(((h1.ext e1).ext e2).ext e3).sub 1 rfl, ?_⟩)⟩
  have e03 : Ext w0 w3 := (e1.trans e2).trans e3
  have hv : View yintern_entry w3 ⟨some ⟨a5, 0, none⟩, 1, 1⟩ [e] := ⟨rfl, fun q hq => by
    cases hq
    have := s.at_ (i := 0) rfl
    have he : flat yintern_entry [e] = cells yintern_entry e := by simp [flat]
    rw [he]; exact this, fun _ => ⟨_, rfl⟩⟩
  refine (h4.ext e03).app hv 1 rfl rfl rfl rfl (by decide) ?_ fun s6 w4 o6 f4 hnew => ?_
  · simp only [List.length_cons, List.length_nil]; omega
  have hsub : ∀ b, blk s6 b → B b ∨ blk s6 b := fun b hb => Or.inr hb
  let B' : Nat → Prop := fun b => B b ∨ blk s6 b
  have k4 : Step B B' w3 w4 := ⟨f4.mono fun b _ hb => b3 b hb, fun b hb => by
    rcases hb with hb | hb
    · exact Or.inl hb
    · rcases hnew b hb with hb | hb
      · exact Or.inl (b3 b hb)
      · exact Or.inr (by omega), fun b hb => Or.inl hb⟩
  have hlt : ∀ b, B' b → b < w4.heap.size := fun b hb => by
    rcases hb with hb | hb
    · exact Nat.lt_of_lt_of_le (Nat.lt_of_lt_of_le (st.lt b hb) e03.size) f4.size
    · exact o6.lt b hb
  have s4 := s.stp k4 hlt
  have h1' := (h1.ext e03).fr f4 n2
  have h2' := (h2.ext e03).fr f4 n2
  have h3' := (h3.ext e03).fr f4 n3
  have p6 : ¬ blk s6 p.block := fun hb => by
    rcases hnew _ hb with hb | hb
    · exact n2 hb
    · have := st.lt _ b1; have := e03.size; omega
  have m6 : ¬ blk s6 m := fun hb => by
    rcases hnew _ hb with hb | hb
    · exact n3 hb
    · have := st.lt _ b2; have := e03.size; omega
  refine nonNil_some (show stK w4 (p.add 1) [.slice s6.a s6.len s6.cap] _ from ⟨h2'.sub 1 1 (by decide), rfl, ?_⟩)
  have f5 := setCells_fr w4 (p.add 1) 0 [.slice s6.a s6.len s6.cap]
  rw [add_block] at f5
  have hat5 := h1'.splice (off := 1) (ds := [.slice s6.a s6.len s6.cap]) (h2'.sub 1 1 (by decide)) (Nat.le_succ 2)
  have hwr5 := h2'.set (a := p.add 1) (cs := [.slice s6.a s6.len s6.cap]) (h2'.sub 1 1 (by decide))
  generalize hw5 : setCells w4 (p.add 1) 0 [.slice s6.a s6.len s6.cap] = w5 at f5 hat5 hwr5 ⊢
  have k5 : Step B' B' w4 w5 := ⟨f5.mono fun b _ hb => Or.inl (by rw [hb]; exact b1), fun b hb => Or.inl hb, fun b hb => hb⟩
  have s5 := s4.stp k5 (fun b hb => Nat.lt_of_lt_of_le (hlt b hb) f5.size)
  refine nonNil_some ⟨s6, hat5.sub 1 rfl, s5.drawK fun w6 s6' e6 _ => nonNil_some ⟨some m, (hat5.ext e6).sub 2 rfl, s6'.ld (ty := yapi_Rule) (x := e.1) 1 0 rfl rfl ?_⟩⟩
  have o5 := o6.fr f5 (fun b hb e => p6 (by rw [← e]; exact hb))
  have m5 := (h3'.fr f5 (fun e => n1 e.symm)).ext e6
  have hlen := o6.view.len
  simp only [List.length_append, List.length_cons, List.length_nil] at hlen
  refine up_run (kt := yapi_Rule) (vt := .int .i64) (by decide) mapRule eqRule (by simp) m5 e.1 (s6.len : Int) hn fun w7 f7 m7 => ?_
  have hl6 : (s6.len : Int) = (L.length : Int) + 1 := by omega
  rw [hl6] at m7 ⊢
  rw [← idx_append] at m7
  refine h w7 B' ?_ ⟨hg, hmb, ?_, ⟨s6, m, ((hat5.ext e6).fr f7 (fun e => n1 e)), ((hwr5.ext e6).fr f7 (fun e => n1 e)), m7, (o5.ext e6).fr f7 (fun b hb e => m6 (by rw [← e]; exact hb)), n1, p6, m6, Or.inl b1, Or.inl b2, fun b hb => Or.inr hb⟩, ?_⟩
  · have k7 : Step B' B' w6 w7 := ⟨f7.mono fun b _ hb => Or.inl (by rw [hb]; exact b2), fun b hb => Or.inl hb, fun b hb => hb⟩
    exact ((k4.pre e03).trans k5).trans ((Step.ofExt e6).trans k7)
  · simp only [List.length_append, List.length_cons, List.length_nil]; omega
  · intro b hb
    exact Nat.lt_of_lt_of_le (Nat.lt_of_lt_of_le (Nat.lt_of_lt_of_le (hlt b hb) f5.size) e6.size) f7.size

/-- the end of Letter, Pair and Power: what was found, or the new entry -/
theorem pAdd_some {e : ET} {i : Int} (h : lkR L e.1 = some i) : pFind L most e.1 = (i, .nilIface) ∧ pAdd L most e = (L, (i, .nilIface)) ∧ i ≠ 0 := by
  have := (lkR_pos h).1
  unfold pFind pAdd
  rw [h]
  exact ⟨rfl, rfl, by omega⟩
theorem pAdd_full {e : ET} (h : lkR L e.1 = none) (hm : most ≤ L.length) : pFind L most e.1 = (0, errV 3) ∧ pAdd L most e = (L, (0, errV 3)) := by
  unfold pFind pAdd
  rw [h]
  simp only [if_pos hm, and_self]
theorem pAdd_new {e : ET} (h : lkR L e.1 = none) (hm : ¬ most ≤ L.length) : pFind L most e.1 = (0, .nilIface) ∧ pAdd L most e = (L ++ [e], ((L.length : Int) + 1, .nilIface)) := by
  unfold pFind pAdd
  rw [h]
  simp only [if_neg hm, and_self]

theorem intern_Letter_nil {b : Int} {K : Int × Value → World → Prop} (h : K (0, errV 5) w0) : C_intern_Store_Letter none b K w0 := by
  apply S_intern_Store_Letter
  unfold F_intern_Store_Letter
  exact gd_t rfl h
theorem intern_Letter_spec {b : Int} (st : Sto B w0 p most L) (hb : 0 ≤ b ∧ b < 256) {K : Int × Value → World → Prop}
    (h : ∀ w' B', Step B B' w0 w' → Sto B' w' p most (pLetter L most b).1 → K (pLetter L most b).2 w') : C_intern_Store_Letter (some p) b K w0 := by
  apply S_intern_Store_Letter
  unfold F_intern_Store_Letter
  refine gd_f rfl ((St.init w0).allocK fun b1 w1 s e1 _ => s.st0 0 rfl rfl rfl fun w2 s _ => s.ld0 (x := (_, _, _, _, _)) 0 rfl rfl (intern_find_spec (st.ext s.fr) fun w3 e3 => ?_))
  have s3 := s.ext e3
  have hE : (mkLetter b).1 = (1, b, 0, 0, 0) := rfl
  unfold pLetter at h
  cases hl : lkR L (mkLetter b).1 with
  | some i =>
    obtain ⟨q1, q2, q3⟩ := pAdd_some (most := most) hl
    rw [q2] at h
    rw [hE] at q1
    rw [q1]
    refine ⟨fun x w => x.1 = true ∧ w = w3, gd_t (by simpa using q3) ⟨rfl, rfl⟩, ?_⟩
    rintro x w ⟨hx, rfl⟩ _
    exact gd_t hx (h _ B (.ofExt s3.fr) (st.ext s3.fr))
  | none =>
    by_cases hm : most ≤ L.length
    · obtain ⟨q1, q2⟩ := pAdd_full (most := most) hl hm
      rw [q2] at h
      rw [hE] at q1
      rw [q1]
      refine ⟨fun x w => x.1 = true ∧ w = w3, gd_f rfl (nilIfc_err ⟨rfl, rfl⟩), ?_⟩
      rintro x w ⟨hx, rfl⟩ _
      exact gd_t hx (h _ B (.ofExt s3.fr) (st.ext s3.fr))
    · obtain ⟨q1, q2⟩ := pAdd_new (most := most) hl hm
      rw [q2] at h
      rw [hE] at q1
      rw [q1]
      refine ⟨fun x w => x.1 = false ∧ w = w3, gd_f rfl (nilIfc_nil ⟨rfl, rfl⟩), ?_⟩
      rintro x w ⟨hx, rfl⟩ _
      refine gd_f hx (s3.drawK fun w5 s5 _ _ => s5.ld0 (ty := yapi_Rule) (x := (1, b, 0, 0, 0)) 0 rfl rfl (weight_Letter_spec hb fun w6 e6 => ⟨(s5.ext e6).at_ (i := 0) rfl, ?_⟩))
      have s6 := s5.ext e6
      exact intern_add_spec (e := mkLetter b) (st.ext s6.fr) hl (by omega) (.letter st.grow hb.1 hb.2 hl) fun w' B' k st' => h _ B' (.pre s6.fr k) st'

theorem intern_Len_nil {K : Int → World → Prop} (h : K 0 w0) : C_intern_Store_Len none K w0 := by
  apply S_intern_Store_Len
  unfold F_intern_Store_Len
  exact gd_t rfl h
theorem intern_Len_spec (st : Sto B w0 p most L) {K : Int → World → Prop} (h : K L.length w0) : C_intern_Store_Len (some p) K w0 := by
  apply S_intern_Store_Len
  unfold F_intern_Store_Len
  obtain ⟨sl, m, h1, _, _, h4, _⟩ := st.mem
  have e := h4.view.len
  refine gd_f rfl (nonNil_some ⟨sl, h1.sub 1 rfl, ?_⟩)
  rw [e]; exact h
end Go.Proofs.YtcmncfglcjcmhaaGreat

/- Pair, Power and the asks of a store of the package intern, from their texts. -/
set_option linter.unusedVariables false
set_option linter.unusedSimpArgs false
namespace Go.Proofs.YtcmncfglcjcmhaaGreat
open Go.Den

variable {w0 : World} {B : Nat → Prop} {p : Addr} {most : Int} {L : List ET}

theorem intern_add_as {e e' : ET} (he : e' = e) (st : Sto B w0 p most L) (hn : lkR L e.1 = none) (hl : (L.length : Int) < most) (hg : Grow (L ++ [e])) {K : Int → World → Prop}
    (h : ∀ w' B', Step B B' w0 w' → Sto B' w' p most (L ++ [e]) → K ((L.length : Int) + 1) w') : C_intern_Store_add (some p) e' K w0 := by
  subst he
  exact intern_add_spec st hn hl hg h

theorem intern_Pair_nil {l r : Int} {K : Int × Value → World → Prop} (h : K (0, errV 5) w0) : C_intern_Store_Pair none l r K w0 := by
  apply S_intern_Store_Pair
  unfold F_intern_Store_Pair
  exact gd_t rfl h
theorem intern_Pair_spec {l r : Int} (st : Sto B w0 p most L) {K : Int × Value → World → Prop}
    (h : ∀ w' B', Step B B' w0 w' → Sto B' w' p most (pPair L most l r).1 → K (pPair L most l r).2 w') : C_intern_Store_Pair (some p) l r K w0 := by
  apply S_intern_Store_Pair
  unfold F_intern_Store_Pair
  have hm0 := st.most0
  have hlen := st.len
  refine gd_f rfl ⟨fun x w => x.1 = !(known L l && known L r) ∧ w = w0, ?_, ?_⟩
  · cases hk : known L l
    · exact intern_known_spec st (by rw [hk]; exact gd_t rfl ⟨rfl, rfl⟩)
    · exact intern_known_spec st (by rw [hk]; exact gd_f rfl (intern_known_spec st ⟨rfl, rfl⟩))
  rintro x w ⟨hx, rfl⟩ _
  by_cases hu : known L l = false ∨ known L r = false
  · have hp : pPair L most l r = (L, (0, errV 1)) := by unfold pPair; rw [if_pos hu]
    rw [hp] at h
    refine gd_t ?_ (h _ B (.ofExt (.refl _ _)) st)
    rw [hx]
    rcases hu with hu | hu <;> simp [hu]
  have hkl : known L l = true := by
    cases e : known L l
    · exact absurd (Or.inl e) hu
    · rfl
  have hkr : known L r = true := by
    cases e : known L r
    · exact absurd (Or.inr e) hu
    · rfl
  have bl := of_decide_eq_true hkl
  have br := of_decide_eq_true hkr
  refine gd_f (by rw [hx, hkl, hkr]; rfl) (gd_eq (fun hl0 => ?_) (fun hl0 => gd_eq (fun hr0 => ?_) (fun hr0 => ?_)))
  · have hp : pPair L most l r = (L, (r, .nilIface)) := by unfold pPair; rw [if_neg hu, if_pos hl0]
    rw [hp] at h
    exact h _ B (.ofExt (.refl _ _)) st
  · have hp : pPair L most l r = (L, (l, .nilIface)) := by unfold pPair; rw [if_neg hu, if_neg hl0, if_pos hr0]
    rw [hp] at h
    exact h _ B (.ofExt (.refl _ _)) st
  obtain ⟨wl, dl0, dl1, pl⟩ := st.grow.at_ bl.1 bl.2
  obtain ⟨wr, dr0, dr1, pr⟩ := st.grow.at_ br.1 br.2
  refine intern_at_spec st hkl fun w4 e4 => intern_at_spec (st.ext e4) hkr fun w5 e5 => ?_
  have s := (St.init w).ext (e4.trans e5)
  refine s.allocK fun a7 w6 s _ _ => s.allocK fun a8 w7 s _ _ => s.st0 1 rfl (by rw [cells_length]; rfl) rfl fun w8 s _ => s.st0 0 rfl (by rw [cells_length]; rfl) rfl fun w9 s _ => s.ldi 1 5 rfl rfl (s.ldi 0 5 rfl rfl ?_)
  refine length_Add_spec wl.len wr.len (fun hle => ?_) (fun hgt => ?_)
  rotate_left
  · have hp : pPair L most l r = (L, (0, errV 2)) := by unfold pPair; rw [if_neg hu, if_neg hl0, if_neg hr0, if_pos hgt]
    rw [hp] at h
    exact nilIfc_err (gd_t rfl (h _ B (.ofExt s.fr) (st.ext s.fr)))
  have hp : pPair L most l r = pAdd L most (mkPair L l r) := by unfold pPair; rw [if_neg hu, if_neg hl0, if_neg hr0, if_neg (by omega)]
  rw [hp] at h
  have hg : lkR L (mkPair L l r).1 = none → Grow (L ++ [mkPair L l r]) := .pair st.grow (by omega) bl.2 (by omega) br.2 hle
  refine nilIfc_nil (gd_f rfl (s.allocK fun a13 w11 s _ _ => s.st0 0 rfl rfl rfl fun w12 s _ => s.ld0 (ty := yapi_Rule) (x := (2, 0, l, r, 0)) 0 rfl rfl (intern_find_spec (st.ext s.fr) fun w13 e13 => ?_)))
  replace s := s.ext e13
  have hE : (mkPair L l r).1 = (2, 0, l, r, 0) := rfl
  cases hl : lkR L (mkPair L l r).1 with
  | some i =>
    obtain ⟨q1, q2, q3⟩ := pAdd_some (most := most) hl
    rw [q2] at h
    rw [hE] at q1
    rw [q1]
    refine ⟨fun x w => x.1 = true ∧ w = w13, gd_t (by simpa using q3) ⟨rfl, rfl⟩, ?_⟩
    rintro x w ⟨hx, rfl⟩ _
    exact gd_t hx (h _ B (.ofExt s.fr) (st.ext s.fr))
  | none =>
    by_cases hm : most ≤ L.length
    · obtain ⟨q1, q2⟩ := pAdd_full (most := most) hl hm
      rw [q2] at h
      rw [hE] at q1
      rw [q1]
      refine ⟨fun x w => x.1 = true ∧ w = w13, gd_f rfl (nilIfc_err ⟨rfl, rfl⟩), ?_⟩
      rintro x w ⟨hx, rfl⟩ _
      exact gd_t hx (h _ B (.ofExt s.fr) (st.ext s.fr))
    · obtain ⟨q1, q2⟩ := pAdd_new (most := most) hl hm
      rw [q2] at h
      rw [hE] at q1
      rw [q1]
      refine ⟨fun x w => x.1 = false ∧ w = w13, gd_f rfl (nilIfc_nil ⟨rfl, rfl⟩), ?_⟩
      rintro x w ⟨hx, rfl⟩ _
      refine gd_f hx (s.ld (ty := yapi_Weight) (x := (eAt L l).2.1) 2 5 rfl rfl (s.ld (ty := yapi_Weight) (x := (eAt L r).2.1) 1 5 rfl rfl (weight_Join_spec wl wr hle fun w15 e15 => ?_)))
      replace s := s.ext e15
      refine s.allocK fun a22 w16 s _ _ => s.st0 0 rfl (by rw [cells_length]; rfl) rfl fun w17 s _ => nilIfc_nil (gd_f rfl (s.ldi 3 11 rfl rfl (s.ldi 2 11 rfl rfl (arith_i64 (by omega) (by omega) ?_))))
      refine s.ld0 (ty := yapi_Rule) (x := (2, 0, l, r, 0)) 1 rfl rfl (s.ld0 (ty := yapi_Weight) (x := wJoin (eAt L l).2.1 (eAt L r).2.1) 0 rfl rfl (s.ldi 3 11 rfl rfl (s.ldi 2 11 rfl rfl (arith_i64 (by split <;> omega) (by split <;> omega) ?_))))
      have fin : ∀ b : Bool, b = ((eAt L l).2.2.2 && (eAt L r).2.2.2 && decide (-1 ≤ (eAt L l).2.2.1 - (eAt L r).2.2.1) && decide ((eAt L l).2.2.1 - (eAt L r).2.2.1 ≤ 1)) →
          C_intern_Store_add (some p) ((2, 0, l, r, 0), wJoin (eAt L l).2.1 (eAt L r).2.1, 1 + (if (eAt L l).2.2.1 < (eAt L r).2.2.1 then (eAt L r).2.2.1 else (eAt L l).2.2.1), b) (fun x w => K (x, .nilIface) w) w17 :=
        fun b hb => intern_add_as (e := mkPair L l r) (by rw [hb]; rfl) (st.ext s.fr) hl (by omega) (hg hl) fun w' B' k st' => h _ B' (.pre s.fr k) st'
      refine s.ldb 3 12 rfl rfl (gd_mk (fun h1 => s.ldb 2 12 rfl rfl (gd_mk (fun h2 => gd_dec (fun h3 => ?_) (fun h3 => ?_)) (fun h2 => ?_))) (fun h1 => ?_))
      · exact fin _ (by rw [h1, h2, decide_eq_true h3]; rfl)
      · exact fin _ (by rw [h1, h2, decide_eq_false h3]; rfl)
      · exact fin _ (by rw [h1, h2]; rfl)
      · exact fin _ (by rw [h1]; rfl)

theorem intern_Power_nil {x k : Int} {K : Int × Value → World → Prop} (h : K (0, errV 5) w0) : C_intern_Store_Power none x k K w0 := by
  apply S_intern_Store_Power
  unfold F_intern_Store_Power
  exact gd_t rfl h
theorem intern_Power_spec {x k : Int} (hk : k ≤ 9223372036854775807) (st : Sto B w0 p most L) {K : Int × Value → World → Prop}
    (h : ∀ w' B', Step B B' w0 w' → Sto B' w' p most (pPower L most x k).1 → K (pPower L most x k).2 w') : C_intern_Store_Power (some p) x k K w0 := by
  apply S_intern_Store_Power
  unfold F_intern_Store_Power
  have hm0 := st.most0
  have hlen := st.len
  refine gd_f rfl ⟨fun y w => y.1 = decide (known L x = false ∨ k < 0) ∧ w = w0, ?_, ?_⟩
  · cases hk : known L x
    · exact intern_known_spec st (by rw [hk]; exact gd_t rfl ⟨by simp, rfl⟩)
    · exact intern_known_spec st (by rw [hk]; exact gd_f rfl ⟨by simp, rfl⟩)
  rintro y w ⟨hy, rfl⟩ _
  by_cases hu : known L x = false ∨ k < 0
  · have hp : pPower L most x k = (L, (0, errV 1)) := by unfold pPower; rw [if_pos hu]
    rw [hp] at h
    exact gd_t (by rw [hy]; exact decide_eq_true hu) (h _ B (.ofExt (.refl _ _)) st)
  have hkx : known L x = true := by
    cases e : known L x
    · exact absurd (Or.inl e) hu
    · rfl
  have bx := of_decide_eq_true hkx
  have hk0 : 0 ≤ k := by
    rcases Int.lt_or_le k 0 with h | h
    · exact absurd (Or.inr h) hu
    · exact h
  refine gd_f (by rw [hy]; exact decide_eq_false hu) ⟨fun y v => y.1 = decide (k = 0 ∨ x = 0) ∧ v = w, ?_, ?_⟩
  · exact gd_eq (fun e => ⟨by simp [e], rfl⟩) (fun e => ⟨by simp only [e, false_or]; rfl, rfl⟩)
  rintro y v ⟨hy, rfl⟩ _
  by_cases hz : k = 0 ∨ x = 0
  · have hp : pPower L most x k = (L, (0, .nilIface)) := by unfold pPower; rw [if_neg hu, if_pos hz]
    rw [hp] at h
    exact gd_t (by rw [hy]; exact decide_eq_true hz) (h _ B (.ofExt (.refl _ _)) st)
  refine gd_f (by rw [hy]; exact decide_eq_false hz) (gd_eq (fun h1 => ?_) (fun h1 => ?_))
  · have hp : pPower L most x k = (L, (x, .nilIface)) := by unfold pPower; rw [if_neg hu, if_neg hz, if_pos h1]
    rw [hp] at h
    exact h _ B (.ofExt (.refl _ _)) st
  obtain ⟨wx, dx0, dx1, px⟩ := st.grow.at_ bx.1 bx.2
  refine intern_at_spec st hkx fun w4 e4 => ?_
  have s := (St.init v).ext e4
  refine s.allocK fun a7 w5 s _ _ => s.st0 0 rfl (by rw [cells_length]; rfl) rfl fun w6 s _ => s.ldi 0 5 rfl rfl ?_
  refine length_Mul_spec wx.len hk0 (fun hle => ?_) (fun hgt => ?_)
  rotate_left
  · have hp : pPower L most x k = (L, (0, errV 2)) := by unfold pPower; rw [if_neg hu, if_neg hz, if_neg h1, if_pos hgt]
    rw [hp] at h
    exact nilIfc_err (gd_t rfl (h _ B (.ofExt s.fr) (st.ext s.fr)))
  have hp : pPower L most x k = pAdd L most (mkPower L x k) := by unfold pPower; rw [if_neg hu, if_neg hz, if_neg h1, if_neg (by omega)]
  rw [hp] at h
  have hg : lkR L (mkPower L x k).1 = none → Grow (L ++ [mkPower L x k]) := .power st.grow (by omega) bx.2 (by omega) hle
  refine nilIfc_nil (gd_f rfl (s.allocK fun a11 w8 s _ _ => s.st0 0 rfl rfl rfl fun w9 s _ => s.ld0 (ty := yapi_Rule) (x := (3, 0, x, 0, k)) 0 rfl rfl (intern_find_spec (st.ext s.fr) fun w10 e10 => ?_)))
  replace s := s.ext e10
  have hE : (mkPower L x k).1 = (3, 0, x, 0, k) := rfl
  cases hl : lkR L (mkPower L x k).1 with
  | some i =>
    obtain ⟨q1, q2, q3⟩ := pAdd_some (most := most) hl
    rw [q2] at h
    rw [hE] at q1
    rw [q1]
    refine ⟨fun x w => x.1 = true ∧ w = w10, gd_t (by simpa using q3) ⟨rfl, rfl⟩, ?_⟩
    rintro x w ⟨hx, rfl⟩ _
    exact gd_t hx (h _ B (.ofExt s.fr) (st.ext s.fr))
  | none =>
    by_cases hm : most ≤ L.length
    · obtain ⟨q1, q2⟩ := pAdd_full (most := most) hl hm
      rw [q2] at h
      rw [hE] at q1
      rw [q1]
      refine ⟨fun x w => x.1 = true ∧ w = w10, gd_f rfl (nilIfc_err ⟨rfl, rfl⟩), ?_⟩
      rintro x w ⟨hx, rfl⟩ _
      exact gd_t hx (h _ B (.ofExt s.fr) (st.ext s.fr))
    · obtain ⟨q1, q2⟩ := pAdd_new (most := most) hl hm
      rw [q2] at h
      rw [hE] at q1
      rw [q1]
      refine ⟨fun x w => x.1 = false ∧ w = w10, gd_f rfl (nilIfc_nil ⟨rfl, rfl⟩), ?_⟩
      rintro y w ⟨hx, rfl⟩ _
      refine gd_f hx (s.ld (ty := yapi_Weight) (x := (eAt L x).2.1) 1 5 rfl rfl (weight_Repeat_spec wx ⟨hk0, hk⟩ hle fun w12 e12 => ?_))
      replace s := s.ext e12
      refine s.allocK fun a19 w13 s _ _ => s.st0 0 rfl (by rw [cells_length]; rfl) rfl fun w14 s _ => nilIfc_nil (gd_f rfl ?_)
      refine s.ld0 (ty := yapi_Rule) (x := (3, 0, x, 0, k)) 1 rfl rfl (s.ld0 (ty := yapi_Weight) (x := wRep (eAt L x).2.1 k) 0 rfl rfl (s.ldi 2 11 rfl rfl (arith_i64 (by omega) (by omega) ?_)))
      exact intern_add_as (e := mkPower L x k) rfl (st.ext s.fr) hl (by omega) (hg hl) fun w' B' k st' => h _ B' (.pre s.fr k) st'

/-! ### Asks -/
theorem intern_Weight_nil {id : Int} {K : WT × Value → World → Prop} (h : ∀ w', Ext w0 w' → K ((0, 0, 0, 0, 0, 0), errV 5) w') : C_intern_Store_Weight none id K w0 := by
  apply S_intern_Store_Weight
  unfold F_intern_Store_Weight
  exact (St.init w0).allocK fun a1 w1 s _ _ => gd_t rfl (s.st0 0 rfl rfl rfl fun w2 s _ => s.ld0 (ty := yapi_Weight) (x := (0, 0, 0, 0, 0, 0)) 0 rfl rfl (h _ s.fr))
theorem intern_Weight_spec {id : Int} (st : Sto B w0 p most L) {K : WT × Value → World → Prop}
    (h : ∀ w', Ext w0 w' → K (if known L id then ((eAt L id).2.1, .nilIface) else ((0, 0, 0, 0, 0, 0), errV 1)) w') : C_intern_Store_Weight (some p) id K w0 := by
  apply S_intern_Store_Weight
  unfold F_intern_Store_Weight
  refine (St.init w0).allocK fun a1 w1 s e1 _ => gd_f rfl (intern_known_spec (st.ext e1) ?_)
  cases hk : known L id
  · simp only [hk] at h
    exact gd_t rfl (s.st0 0 rfl rfl rfl fun w2 s _ => s.ld0 (ty := yapi_Weight) (x := (0, 0, 0, 0, 0, 0)) 0 rfl rfl (h _ s.fr))
  · simp only [hk] at h
    refine gd_f rfl (intern_at_spec (st.ext e1) hk fun w5 e5 => ?_)
    exact (s.ext e5).st0 0 rfl rfl rfl fun w6 s _ => s.ld0 (ty := yapi_Weight) (x := (eAt L id).2.1) 0 rfl rfl (h _ s.fr)

theorem intern_Rule_nil {id : Int} {K : RT × Value → World → Prop} (h : ∀ w', Ext w0 w' → K ((0, 0, 0, 0, 0), errV 5) w') : C_intern_Store_Rule none id K w0 := by
  apply S_intern_Store_Rule
  unfold F_intern_Store_Rule
  exact (St.init w0).allocK fun a1 w1 s _ _ => gd_t rfl (s.st0 0 rfl rfl rfl fun w2 s _ => s.ld0 (ty := yapi_Rule) (x := (0, 0, 0, 0, 0)) 0 rfl rfl (h _ s.fr))
theorem intern_Depth_nil {id : Int} {K : Int × Value → World → Prop} (h : K (0, errV 5) w0) : C_intern_Store_Depth none id K w0 := by
  apply S_intern_Store_Depth
  unfold F_intern_Store_Depth
  exact gd_t rfl h
theorem intern_Export_nil {id : Int} {K : Sl × Value → World → Prop} (h : K (⟨none, 0, 0⟩, errV 5) w0) : C_intern_Store_Export none id K w0 := by
  apply S_intern_Store_Export
  unfold F_intern_Store_Export
  exact gd_t rfl h
end Go.Proofs.YtcmncfglcjcmhaaGreat

/- A store's list after a rule was added; the errors of the calls. -/
set_option linter.unusedVariables false
set_option linter.unusedSimpArgs false
namespace Go.Proofs.YtcmncfglcjcmhaaGreat
open Go.Den

variable {w0 : World}

theorem lkR_none {L : List ET} {r : RT} (h : ∀ e ∈ L, e.1 ≠ r) : lkR L r = none := by
  unfold lkR lk
  have : (idx L).find? (fun p => beqT yapi_Rule r p.1) = none := by
    rw [List.find?_eq_none]
    intro x hx hb
    have hr := (beqT_iff yapi_Rule rfl _ _).1 hb
    unfold idx at hx
    obtain ⟨q, hq, rfl⟩ := List.mem_map.1 hx
    obtain ⟨a, i⟩ := q
    obtain ⟨-, -, ha⟩ := List.mem_zipIdx hq
    exact h a (by rw [ha]; exact List.getElem_mem _) hr.symm
  rw [this]; rfl
theorem eAt_append {L : List ET} {e : ET} {id : Int} (hpos : 0 ≤ id) (h : id ≤ L.length) : eAt (L ++ [e]) id = eAt L id := by
  unfold eAt
  by_cases h0 : id = 0
  · rw [if_pos h0, if_pos h0]
  · rw [if_neg h0, if_neg h0, List.getD_eq_getElem?_getD, List.getD_eq_getElem?_getD, List.getElem?_append_left (by omega)]
theorem known_append {L : List ET} {e : ET} {id : Int} (h : known L id = true) : known (L ++ [e]) id = true := by
  unfold known at h ⊢
  simp only [decide_eq_true_eq, List.length_append, List.length_cons, List.length_nil] at h ⊢
  omega
theorem lkR_append_some {L : List ET} {e : ET} {r : RT} {i : Int} (h : lkR L r = some i) : lkR (L ++ [e]) r = some i := by
  unfold lkR lk at h ⊢
  rw [idx_append, List.find?_append]
  cases hf : (idx L).find? (fun p => beqT yapi_Rule r p.1) with
  | none => rw [hf] at h; cases h
  | some p => rw [hf] at h; exact h
theorem lkR_append_none {L : List ET} {e : ET} {r : RT} (h : lkR L r = none) : lkR (L ++ [e]) r = if e.1 = r then some ((L.length : Int) + 1) else none := by
  unfold lkR lk at h ⊢
  rw [idx_append, List.find?_append]
  cases hf : (idx L).find? (fun p => beqT yapi_Rule r p.1) with
  | some p => rw [hf] at h; cases h
  | none =>
    simp only [Option.none_or]
    by_cases hr : e.1 = r
    · have : beqT yapi_Rule r e.1 = true := (beqT_iff yapi_Rule rfl _ _).2 hr.symm
      rw [if_pos hr]
      simp [this]
    · have : beqT yapi_Rule r e.1 = false := by
        cases hb : beqT yapi_Rule r e.1
        · rfl
        · exact absurd ((beqT_iff yapi_Rule rfl _ _).1 hb).symm hr
      rw [if_neg hr]
      simp [this]

/-- what a call answers as an error -/
def IsErr (v : Value) : Prop := v = .nilIface ∨ ∃ n, n ≠ 0 ∧ v = errV n
def codeOf (v : Value) : Int := match v with
  | .iface _ (.int _ n) => n
  | _ => 0
theorem pAdd_err {L : List ET} {most : Int} {e : ET} : IsErr (pAdd L most e).2.2 := by
  unfold pAdd
  split
  · exact Or.inl rfl
  · split
    · exact Or.inr ⟨_, by decide, rfl⟩
    · exact Or.inl rfl

theorem pLetter_err {L : List ET} {most b : Int} : IsErr (pLetter L most b).2.2 := pAdd_err
theorem pPair_err {L : List ET} {most l r : Int} : IsErr (pPair L most l r).2.2 := by
  unfold pPair
  split
  · exact Or.inr ⟨_, by decide, rfl⟩
  split
  · exact Or.inl rfl
  split
  · exact Or.inl rfl
  split
  · exact Or.inr ⟨_, by decide, rfl⟩
  · exact pAdd_err
theorem pPower_err {L : List ET} {most x k : Int} : IsErr (pPower L most x k).2.2 := by
  unfold pPower
  split
  · exact Or.inr ⟨_, by decide, rfl⟩
  split
  · exact Or.inl rfl
  split
  · exact Or.inl rfl
  split
  · exact Or.inr ⟨_, by decide, rfl⟩
  · exact pAdd_err
theorem isNilI_err {v : Value} (h : IsErr v) : (isNilI v = true ∧ codeOf v = 0 ∧ v = .nilIface) ∨ (isNilI v = false ∧ codeOf v ≠ 0 ∧ ∃ n, v = errV n) := by
  rcases h with rfl | ⟨n, hn, rfl⟩
  · exact Or.inl ⟨rfl, rfl, rfl⟩
  · exact Or.inr ⟨rfl, hn, n, rfl⟩
theorem codeOf_err (n : Int) : codeOf (errV n) = n := rfl
theorem codeOf_nil : codeOf .nilIface = 0 := rfl

theorem wLetter_len (b : Int) : (wLetter b).1 = 1 := by unfold wLetter; split <;> rfl
theorem wRep_len (a : WT) (k : Int) : (wRep a k).1 = a.1 * k := by
  unfold wRep
  split
  · rename_i h; rw [h]; rfl
  · rfl


theorem eAt_last (L : List ET) (e : ET) : eAt (L ++ [e]) ((L.length : Int) + 1) = e := by
  have h := eAt_get (L := L ++ [e]) (id := (L.length : Int) + 1) (by omega) (by simp)
  have e1 : ((L.length : Int) + 1 - 1).toNat = L.length := by omega
  rw [e1] at h
  simp at h
  exact h.symm
theorem known_last (L : List ET) (e : ET) : known (L ++ [e]) ((L.length : Int) + 1) = true := by
  unfold known
  simp only [List.length_append, List.length_cons, List.length_nil, decide_eq_true_eq]
  omega


end Go.Proofs.YtcmncfglcjcmhaaGreat

/- What a list of rules is made of: each rule is of earlier ones; no rule stands there twice. -/
set_option linter.unusedVariables false
set_option linter.unusedSimpArgs false
namespace Go.Proofs.YtcmncfglcjcmhaaGreat
open Go.Den

inductive Shape (T : List ET) (id : Int) : Prop
  | letter (b : Int) : 0 ≤ b → b < 256 → eAt T id = mkLetter b → Shape T id
  | pair (l r : Int) : 1 ≤ l → l < id → 1 ≤ r → r < id → (eAt T l).2.1.1 + (eAt T r).2.1.1 ≤ 1152921504606846976 → eAt T id = mkPair T l r → Shape T id
  | power (x k : Int) : 1 ≤ x → x < id → 2 ≤ k → (eAt T x).2.1.1 * k ≤ 1152921504606846976 → eAt T id = mkPower T x k → Shape T id

theorem mkPair_append {T : List ET} {e : ET} {l r : Int} (hl : 0 ≤ l ∧ l ≤ T.length) (hr : 0 ≤ r ∧ r ≤ T.length) : mkPair (T ++ [e]) l r = mkPair T l r := by
  unfold mkPair
  rw [eAt_append hl.1 hl.2, eAt_append hr.1 hr.2]
theorem mkPower_append {T : List ET} {e : ET} {x k : Int} (hx : 0 ≤ x ∧ x ≤ T.length) : mkPower (T ++ [e]) x k = mkPower T x k := by
  unfold mkPower
  rw [eAt_append hx.1 hx.2]
theorem Shape.append {T : List ET} {e : ET} {id : Int} (h : Shape T id) (h1 : 1 ≤ id) (h2 : id ≤ T.length) : Shape (T ++ [e]) id := by
  have e1 := eAt_append (e := e) (by omega) h2
  cases h with
  | letter b h3 h4 h5 => exact .letter b h3 h4 (e1.trans h5)
  | pair l r h3 h4 h5 h6 h7 h8 =>
    refine .pair l r h3 h4 h5 h6 ?_ ?_
    · rw [eAt_append (by omega) (by omega), eAt_append (by omega) (by omega)]; exact h7
    · rw [e1, h8, mkPair_append (by omega) (by omega)]
  | power x k h3 h4 h5 h6 h7 =>
    refine .power x k h3 h4 h5 ?_ ?_
    · rw [eAt_append (by omega) (by omega)]; exact h6
    · rw [e1, h7, mkPower_append (by omega)]
theorem Grow.last {T : List ET} {e : ET} (h : Grow (T ++ [e])) : Grow T ∧ lkR T e.1 = none ∧ Shape (T ++ [e]) ((T.length : Int) + 1) := by
  generalize hL : T ++ [e] = L at h
  cases h with
  | nil => simp at hL
  | @letter L' b g h0 h1 hn =>
    obtain ⟨rfl, e1⟩ := List.append_inj' hL rfl
    cases e1
    exact ⟨g, hn, .letter b h0 h1 (eAt_last _ _)⟩
  | @pair L' l r g a1 a2 a3 a4 a5 hn =>
    obtain ⟨rfl, e1⟩ := List.append_inj' hL rfl
    cases e1
    refine ⟨g, hn, .pair l r a1 (by omega) a3 (by omega) ?_ ?_⟩
    · rw [eAt_append (by omega) (by omega), eAt_append (by omega) (by omega)]; exact a5
    · rw [eAt_last, mkPair_append (by omega) (by omega)]
  | @power L' x k g a1 a2 a3 a4 hn =>
    obtain ⟨rfl, e1⟩ := List.append_inj' hL rfl
    cases e1
    refine ⟨g, hn, .power x k a1 (by omega) a3 ?_ ?_⟩
    · rw [eAt_append (by omega) (by omega)]; exact a4
    · rw [eAt_last, mkPower_append (by omega)]
/-- from the empty list, rule by rule -/
theorem Grow.rec_ {M : List ET → Prop} (h0 : M []) (h1 : ∀ T e, Grow T → Grow (T ++ [e]) → M T → M (T ++ [e])) : ∀ {T : List ET}, Grow T → M T := by
  have key : ∀ n (T : List ET), T.length = n → Grow T → M T := by
    intro n
    induction n with
    | zero => intro T h g; rw [List.eq_nil_of_length_eq_zero h]; exact h0
    | succ n ih =>
      intro T h g
      obtain ⟨T', e, rfl⟩ : ∃ T' e, T = T' ++ [e] := ⟨T.dropLast, T.getLast (by intro h'; rw [h'] at h; simp at h), (List.dropLast_concat_getLast _).symm⟩
      exact h1 T' e g.last.1 g (ih T' (by simpa using h) g.last.1)
  exact fun {T} g => key _ T rfl g
theorem Grow.shape {T : List ET} (g : Grow T) : ∀ {id : Int}, 1 ≤ id → id ≤ T.length → Shape T id := by
  refine Grow.rec_ (M := fun T => ∀ {id : Int}, 1 ≤ id → id ≤ T.length → Shape T id) (fun h1 h2 => by simp at h2; omega) (fun T e _ g ih => ?_) g
  intro id h1 h2
  simp only [List.length_append, List.length_cons, List.length_nil] at h2
  by_cases h : id ≤ T.length
  · exact (ih h1 h).append h1 h
  · have : id = (T.length : Int) + 1 := by omega
    subst this
    exact g.last.2.2
theorem Grow.find {T : List ET} (g : Grow T) : ∀ {id : Int}, 1 ≤ id → id ≤ T.length → lkR T (eAt T id).1 = some id := by
  refine Grow.rec_ (M := fun T => ∀ {id : Int}, 1 ≤ id → id ≤ T.length → lkR T (eAt T id).1 = some id) (fun h1 h2 => by simp at h2; omega) (fun T e _ g ih => ?_) g
  intro id h1 h2
  simp only [List.length_append, List.length_cons, List.length_nil] at h2
  by_cases h : id ≤ T.length
  · rw [eAt_append (by omega) h]
    exact lkR_append_some (ih h1 h)
  · have : id = (T.length : Int) + 1 := by omega
    subst this
    rw [eAt_last, lkR_append_none g.last.2.1, if_pos rfl]
theorem lkR_rule {T : List ET} {r : RT} {i : Int} (h : lkR T r = some i) : (eAt T i).1 = r := by
  have hb := lkR_pos h
  unfold lkR lk at h
  cases hf : (Go.Proofs.YtcmncfglcjcmhaaGreat.idx T).find? (fun p => beqT yapi_Rule r p.1) with
  | none => rw [hf] at h; cases h
  | some p =>
    rw [hf] at h
    simp only [Option.map_some, Option.some.injEq] at h
    have hm := List.mem_of_find?_eq_some hf
    have hb := List.find?_some hf
    have hr := (beqT_iff yapi_Rule rfl _ _).1 hb
    unfold Go.Proofs.YtcmncfglcjcmhaaGreat.idx at hm
    obtain ⟨⟨a, n⟩, hq, rfl⟩ := List.mem_map.1 hm
    obtain ⟨_, h2, h3⟩ := List.mem_zipIdx hq
    have h' : (n : Int) + 1 = i := h
    have := eAt_get (L := T) (id := i) (by omega) (by omega)
    have e1 : (i - 1).toNat = n := by omega
    rw [e1] at this
    simp only [Nat.sub_zero] at h3
    have h4 : T[n]? = some a := by rw [h3]; exact List.getElem?_eq_getElem _
    rw [h4] at this
    cases this
    exact hr.symm

end Go.Proofs.YtcmncfglcjcmhaaGreat

/- The store of the package intern as one object of a state, and its asks. -/
set_option linter.unusedVariables false
set_option linter.unusedSimpArgs false
namespace Go.Proofs.YtcmncfglcjcmhaaGreat
open Go.Den

variable {w0 w : World} {Ω : List Ob} {p : Addr} {most : Int} {T : List ET} {i : Nat}

def sto (p : Addr) (most : Int) (T : List ET) : Ob := ⟨false, fun B w => Sto B w p most T, fun h f hB => h.fr f hB⟩
theorem Sp.sto_ (s : Sp w0 Ω w) (i : Nat) (hi : Ω[i]? = some (sto p most T)) : ∃ B, Sto B w p most T := by
  obtain ⟨B, h, _⟩ := s.get i hi
  exact ⟨B, h⟩
theorem Sp.stp (s : Sp w0 Ω w) (i : Nat) (hi : Ω[i]? = some (sto p most T)) : ∃ B, Sto B w p most T ∧ ∀ {T' : List ET} {B' : Nat → Prop} {w' : World}, Step B B' w w' → Sto B' w' p most T' → Sp w0 (Ω.set i (sto p most T')) w' := by
  obtain ⟨B, st, _, back⟩ := s.open i hi rfl
  exact ⟨B, st, fun k st' => back _ _ _ st' k.fr k.new st'.lt⟩

theorem intern_New_sp {m : Int} (s : Sp w0 Ω w) {K : Option Addr → World → Prop}
    (h : ∀ p w', Sp w0 (sto p (if m < 0 then 0 else if 1048576 < m then 1048576 else m) [] :: Ω) w' → K (some p) w') : C_intern_New m K w :=
  intern_New_spec fun p w' B e hB st => h p w' (s.push e st fun b hb => ⟨hB b hb, st.lt b hb⟩)
theorem intern_Letter_sp {b : Int} (s : Sp w0 Ω w) (i : Nat) (hi : Ω[i]? = some (sto p most T)) (hb : 0 ≤ b ∧ b < 256) {K : Int × Value → World → Prop}
    (h : ∀ w', Sp w0 (Ω.set i (sto p most (pLetter T most b).1)) w' → K (pLetter T most b).2 w') : C_intern_Store_Letter (some p) b K w := by
  obtain ⟨B, st, back⟩ := Sp.stp s i hi
  exact intern_Letter_spec st hb fun w' B' k st' => h w' (back k st')
theorem intern_Pair_sp {l r : Int} (s : Sp w0 Ω w) (i : Nat) (hi : Ω[i]? = some (sto p most T)) {K : Int × Value → World → Prop}
    (h : ∀ w', Sp w0 (Ω.set i (sto p most (pPair T most l r).1)) w' → K (pPair T most l r).2 w') : C_intern_Store_Pair (some p) l r K w := by
  obtain ⟨B, st, back⟩ := Sp.stp s i hi
  exact intern_Pair_spec st fun w' B' k st' => h w' (back k st')
theorem intern_Power_sp {x k : Int} (s : Sp w0 Ω w) (i : Nat) (hi : Ω[i]? = some (sto p most T)) (hk : k ≤ 9223372036854775807) {K : Int × Value → World → Prop}
    (h : ∀ w', Sp w0 (Ω.set i (sto p most (pPower T most x k).1)) w' → K (pPower T most x k).2 w') : C_intern_Store_Power (some p) x k K w := by
  obtain ⟨B, st, back⟩ := Sp.stp s i hi
  exact intern_Power_spec hk st fun w' B' k st' => h w' (back k st')
theorem intern_Len_sp (s : Sp w0 Ω w) (i : Nat) (hi : Ω[i]? = some (sto p most T)) {K : Int → World → Prop} (h : K T.length w) : C_intern_Store_Len (some p) K w := by
  obtain ⟨B, st⟩ := Sp.sto_ s i hi
  exact intern_Len_spec st h
theorem intern_known_sp {id : Int} (s : Sp w0 Ω w) (i : Nat) (hi : Ω[i]? = some (sto p most T)) {K : Bool → World → Prop} (h : K (known T id) w) : C_intern_Store_known (some p) id K w := by
  obtain ⟨B, st⟩ := Sp.sto_ s i hi
  exact intern_known_spec st h
theorem intern_at_sp {id : Int} (s : Sp w0 Ω w) (i : Nat) (hi : Ω[i]? = some (sto p most T)) (hk : known T id = true) {K : ET → World → Prop} (h : ∀ w', Sp w0 Ω w' → K (eAt T id) w') : C_intern_Store_at (some p) id K w := by
  obtain ⟨B, st⟩ := Sp.sto_ s i hi
  exact intern_at_spec st hk fun w' e => h w' (s.toExt e)
theorem intern_Weight_sp {id : Int} (s : Sp w0 Ω w) (i : Nat) (hi : Ω[i]? = some (sto p most T)) {K : WT × Value → World → Prop}
    (h : ∀ w', Sp w0 Ω w' → K (if known T id then ((eAt T id).2.1, .nilIface) else ((0, 0, 0, 0, 0, 0), errV 1)) w') : C_intern_Store_Weight (some p) id K w := by
  obtain ⟨B, st⟩ := Sp.sto_ s i hi
  exact intern_Weight_spec st fun w' e => h w' (s.toExt e)
theorem intern_Depth_sp {id : Int} (s : Sp w0 Ω w) (i : Nat) (hi : Ω[i]? = some (sto p most T)) {K : Int × Value → World → Prop}
    (h : ∀ w', Sp w0 Ω w' → K (if known T id then ((eAt T id).2.2.1, .nilIface) else (0, errV 1)) w') : C_intern_Store_Depth (some p) id K w := by
  apply S_intern_Store_Depth
  unfold F_intern_Store_Depth
  refine gd_f rfl (intern_known_sp s i hi ?_)
  cases hk : known T id
  · rw [hk] at h
    exact gd_t rfl (h _ s)
  · rw [hk] at h
    exact gd_f rfl (intern_at_sp s i hi hk fun w' s => h w' s)

/-- the list in memory, read by a number -/
theorem Sp.entry (s : Sp w0 Ω w) (i : Nat) (hi : Ω[i]? = some (sto p most T)) : ∃ sl : Sl, At w (p.add 1) (cells .slice sl) ∧ View yintern_entry w sl T ∧ 0 ≤ most ∧ most ≤ 1048576 ∧ (T.length : Int) ≤ most ∧ Grow T := by
  obtain ⟨B, st⟩ := Sp.sto_ s i hi
  have hm := st.most0
  obtain ⟨sl, m, h1, _, _, h4, _⟩ := st.mem
  exact ⟨sl, h1.sub 1 rfl, h4.view, hm.1, hm.2, st.len, st.grow⟩
theorem Sp.ids (s : Sp w0 Ω w) (i : Nat) (hi : Ω[i]? = some (sto p most T)) : ∃ m : Nat, At w (p.add 2) (cells .map (some m)) ∧ MapIs yapi_Rule (.int .i64) w m (idx T) := by
  obtain ⟨B, st⟩ := Sp.sto_ s i hi
  obtain ⟨sl, m, h1, _, h3, _⟩ := st.mem
  exact ⟨m, h1.sub 2 rfl, h3⟩
def isRule (T : List ET) (id : Int) : Bool := decide (1 ≤ id ∧ id ≤ T.length)
theorem intern_Rule_sp {id : Int} (s : Sp w0 Ω w) (i : Nat) (hi : Ω[i]? = some (sto p most T)) {K : RT × Value → World → Prop}
    (h : ∀ w', Sp w0 Ω w' → K (if isRule T id then ((eAt T id).1, .nilIface) else ((0, 0, 0, 0, 0), errV 1)) w') : C_intern_Store_Rule (some p) id K w := by
  apply S_intern_Store_Rule
  unfold F_intern_Store_Rule
  obtain ⟨sl, hl, hv, h0, h1, hlen, hg⟩ := Sp.entry s i hi
  refine s.allocK fun b w1 s1 => gd_f rfl ⟨fun x w => x.1 = !(isRule T id) ∧ w = w1, ?_, ?_⟩
  · refine gd_eq (fun e => ⟨by subst e; rfl, rfl⟩) (fun e => intern_known_sp s1 (i + 1) hi ⟨?_, rfl⟩)
    have : known T id = isRule T id := decide_eq_decide.2 (by omega)
    rw [this]
  rintro ⟨x, _⟩ w2 ⟨hx, rfl⟩ _
  dsimp only at hx
  obtain ⟨sl, hl, hv, h0, h1, hlen, hg⟩ := Sp.entry s1 (i + 1) hi
  cases hk : isRule T id
  · rw [hk] at h hx
    exact gd_t hx (s1.st0 0 rfl rfl rfl fun w3 s3 => s3.ld0 (ty := yapi_Rule) (x := (0, 0, 0, 0, 0)) 0 rfl rfl (h _ s3.pop))
  · rw [hk] at h hx
    have hk' : 1 ≤ id ∧ id ≤ T.length := by simpa [isRule] using hk
    refine gd_f hx (nonNil_some ⟨sl, hl, arith_i64 (by omega) (by omega) (hv.idx (n := (id - 1).toNat) (by omega) (eAt_get hk'.1 hk'.2) rfl fun q hq => ?_)⟩)
    refine ⟨(eAt T id).1, hq.sub 0 rfl, s1.st0 0 rfl rfl rfl fun w3 s3 => s3.ld0 0 rfl rfl (h _ s3.pop)⟩
theorem intern_Rule_k {id : Int} (s : Sp w0 Ω w) (i : Nat) (hi : Ω[i]? = some (sto p most T)) (hk : 1 ≤ id ∧ id ≤ T.length) {K : RT × Value → World → Prop} (h : ∀ w', Sp w0 Ω w' → K ((eAt T id).1, .nilIface) w') : C_intern_Store_Rule (some p) id K w :=
  intern_Rule_sp s i hi fun w' s => by
    rw [if_pos (show isRule T id = true from decide_eq_true hk)]; exact h w' s
theorem intern_Rule_u {id : Int} (s : Sp w0 Ω w) (i : Nat) (hi : Ω[i]? = some (sto p most T)) (hk : ¬ (1 ≤ id ∧ id ≤ T.length)) {K : RT × Value → World → Prop} (h : ∀ w', Sp w0 Ω w' → K ((0, 0, 0, 0, 0), errV 1) w') : C_intern_Store_Rule (some p) id K w :=
  intern_Rule_sp s i hi fun w' s => by
    rw [if_neg (show ¬ isRule T id = true from by rw [isRule, decide_eq_false hk]; simp)]; exact h w' s
theorem intern_Weight_k {id : Int} (s : Sp w0 Ω w) (i : Nat) (hi : Ω[i]? = some (sto p most T)) (hk : 0 ≤ id ∧ id ≤ T.length) {K : WT × Value → World → Prop} (h : ∀ w', Sp w0 Ω w' → K ((eAt T id).2.1, .nilIface) w') : C_intern_Store_Weight (some p) id K w :=
  intern_Weight_sp s i hi fun w' s => by
    rw [if_pos (show known T id = true from decide_eq_true hk)]; exact h w' s
theorem intern_Weight_u {id : Int} (s : Sp w0 Ω w) (i : Nat) (hi : Ω[i]? = some (sto p most T)) (hk : ¬ (0 ≤ id ∧ id ≤ T.length)) {K : WT × Value → World → Prop} (h : ∀ w', Sp w0 Ω w' → K ((0, 0, 0, 0, 0, 0), errV 1) w') : C_intern_Store_Weight (some p) id K w :=
  intern_Weight_sp s i hi fun w' s => by
    rw [if_neg (show ¬ known T id = true from by rw [known, decide_eq_false hk]; simp)]; exact h w' s
theorem intern_Depth_k {id : Int} (s : Sp w0 Ω w) (i : Nat) (hi : Ω[i]? = some (sto p most T)) (hk : 0 ≤ id ∧ id ≤ T.length) {K : Int × Value → World → Prop} (h : ∀ w', Sp w0 Ω w' → K ((eAt T id).2.2.1, .nilIface) w') : C_intern_Store_Depth (some p) id K w :=
  intern_Depth_sp s i hi fun w' s => by
    rw [if_pos (show known T id = true from decide_eq_true hk)]; exact h w' s
theorem intern_Depth_u {id : Int} (s : Sp w0 Ω w) (i : Nat) (hi : Ω[i]? = some (sto p most T)) (hk : ¬ (0 ≤ id ∧ id ≤ T.length)) {K : Int × Value → World → Prop} (h : ∀ w', Sp w0 Ω w' → K (0, errV 1) w') : C_intern_Store_Depth (some p) id K w :=
  intern_Depth_sp s i hi fun w' s => by
    rw [if_neg (show ¬ known T id = true from by rw [known, decide_eq_false hk]; simp)]; exact h w' s

theorem beqT_dec {t : Ty} (h : leafT t = true) {x y : t.T} [DecidableEq t.T] : beqT t x y = decide (x = y) := by
  cases hb : beqT t x y
  · exact (decide_eq_false fun e => by rw [(beqT_iff t h _ _).2 e] at hb; cases hb).symm
  · exact (decide_eq_true ((beqT_iff t h _ _).1 hb)).symm
theorem guardRule : P.eqGuardType P.depth t_api_Rule = false := by kernel_rfl
theorem rule_eql {xo yo : Operand} {x y : RT} {K : Bool → Prop} (h : K (decide (x = y))) : testK P (do eqGuard .eql t_api_Rule xo yo (val yapi_Rule x) (val yapi_Rule y); binOp .eql t_api_Rule (val yapi_Rule x) (val yapi_Rule y)) K :=
  test_eql (d := 2) (by decide) eqRule guardRule ((fun e : beqT yapi_Rule x y = decide (x = y) => e ▸ h) (beqT_dec (t := yapi_Rule) rfl))
theorem rule_neq {xo yo : Operand} {x y : RT} {K : Bool → Prop} (h : K (!decide (x = y))) : testK P (do eqGuard .neq t_api_Rule xo yo (val yapi_Rule x) (val yapi_Rule y); binOp .neq t_api_Rule (val yapi_Rule x) (val yapi_Rule y)) K :=
  test_neq (d := 2) (by decide) eqRule guardRule ((fun e : beqT yapi_Rule x y = decide (x = y) => e ▸ h) (beqT_dec (t := yapi_Rule) rfl))
theorem eqWeight : eqOK P 3 t_api_Weight yapi_Weight = true := by kernel_rfl
theorem guardWeight : P.eqGuardType P.depth t_api_Weight = false := by kernel_rfl
theorem weight_eql {xo yo : Operand} {x y : WT} {K : Bool → Prop} (h : K (decide (x = y))) : testK P (do eqGuard .eql t_api_Weight xo yo (val yapi_Weight x) (val yapi_Weight y); binOp .eql t_api_Weight (val yapi_Weight x) (val yapi_Weight y)) K :=
  test_eql (d := 3) (by decide) eqWeight guardWeight ((fun e : beqT yapi_Weight x y = decide (x = y) => e ▸ h) (beqT_dec (t := yapi_Weight) rfl))
theorem weight_neq {xo yo : Operand} {x y : WT} {K : Bool → Prop} (h : K (!decide (x = y))) : testK P (do eqGuard .neq t_api_Weight xo yo (val yapi_Weight x) (val yapi_Weight y); binOp .neq t_api_Weight (val yapi_Weight x) (val yapi_Weight y)) K :=
  test_neq (d := 3) (by decide) eqWeight guardWeight ((fun e : beqT yapi_Weight x y = decide (x = y) => e ▸ h) (beqT_dec (t := yapi_Weight) rfl))

end Go.Proofs.YtcmncfglcjcmhaaGreat

/- The text of a rule of a list, letter by letter, and that the rule's weight is that of its text. -/
set_option linter.unusedVariables false
set_option linter.unusedSimpArgs false
namespace Go.Proofs.YtcmncfglcjcmhaaGreat
open Go.Den

/-! ### Texts -/
def gt (acc : List (List Int)) (id : Int) : List Int := if id = 0 then [] else acc.getD (id - 1).toNat []
def tx1 (acc : List (List Int)) (r : RT) : List Int :=
  if r.1 = 1 then [r.2.1] else if r.1 = 2 then gt acc r.2.2.1 ++ gt acc r.2.2.2.1 else (List.replicate r.2.2.2.2.toNat (gt acc r.2.2.1)).flatten
def txts (T : List ET) : List (List Int) := T.foldl (fun acc e => acc ++ [tx1 acc e.1]) []
def txt (T : List ET) (id : Int) : List Int := gt (txts T) id

theorem txts_append (T : List ET) (e : ET) : txts (T ++ [e]) = txts T ++ [tx1 (txts T) e.1] := by
  unfold txts
  rw [List.foldl_append]; rfl
theorem txts_len (T : List ET) : (txts T).length = T.length := by
  have key : ∀ (T : List ET) (acc : List (List Int)), (T.foldl (fun acc e => acc ++ [tx1 acc e.1]) acc).length = acc.length + T.length := by
    intro T
    induction T with
    | nil => intro acc; rfl
    | cons e T ih =>
      intro acc
      rw [List.foldl_cons, ih]
      simp only [List.length_append, List.length_cons, List.length_nil]; omega
  have := key T []
  simpa [txts] using this
theorem gt_append {acc : List (List Int)} {t : List Int} {id : Int} (h0 : 0 ≤ id) (h : id ≤ acc.length) : gt (acc ++ [t]) id = gt acc id := by
  unfold gt
  by_cases e : id = 0
  · rw [if_pos e, if_pos e]
  · rw [if_neg e, if_neg e, List.getD_eq_getElem?_getD, List.getD_eq_getElem?_getD, List.getElem?_append_left (by omega)]
theorem gt_last {acc : List (List Int)} {t : List Int} : gt (acc ++ [t]) ((acc.length : Int) + 1) = t := by
  unfold gt
  rw [if_neg (by omega), List.getD_eq_getElem?_getD, show ((acc.length : Int) + 1 - 1).toNat = acc.length by omega]
  simp
theorem txt_append {T : List ET} {e : ET} {id : Int} (h0 : 0 ≤ id) (h : id ≤ T.length) : txt (T ++ [e]) id = txt T id := by
  unfold txt
  rw [txts_append, gt_append h0 (by rw [txts_len]; exact h)]
theorem txt_zero (T : List ET) : txt T 0 = [] := rfl

inductive TxtOf (T : List ET) (id : Int) : Prop
  | letter (b : Int) : 0 ≤ b → b < 256 → eAt T id = mkLetter b → txt T id = [b] → TxtOf T id
  | pair (l r : Int) : 1 ≤ l → l < id → 1 ≤ r → r < id → (eAt T l).2.1.1 + (eAt T r).2.1.1 ≤ 1152921504606846976 → eAt T id = mkPair T l r → txt T id = txt T l ++ txt T r → TxtOf T id
  | power (x k : Int) : 1 ≤ x → x < id → 2 ≤ k → (eAt T x).2.1.1 * k ≤ 1152921504606846976 → eAt T id = mkPower T x k → txt T id = (List.replicate k.toNat (txt T x)).flatten → TxtOf T id
theorem TxtOf.append {T : List ET} {e : ET} {id : Int} (h : TxtOf T id) (h1 : 1 ≤ id) (h2 : id ≤ T.length) : TxtOf (T ++ [e]) id := by
  have e1 := eAt_append (e := e) (by omega) h2
  have t1 := txt_append (e := e) (by omega) h2
  cases h with
  | letter b h3 h4 h5 h6 => exact .letter b h3 h4 (e1.trans h5) (t1.trans h6)
  | pair l r h3 h4 h5 h6 h7 h8 h9 =>
    refine .pair l r h3 h4 h5 h6 ?_ ?_ ?_
    · rw [eAt_append (by omega) (by omega), eAt_append (by omega) (by omega)]; exact h7
    · rw [e1, h8, mkPair_append (by omega) (by omega)]
    · rw [t1, h9, txt_append (by omega) (by omega), txt_append (by omega) (by omega)]
  | power x k h3 h4 h5 h6 h7 h8 =>
    refine .power x k h3 h4 h5 ?_ ?_ ?_
    · rw [eAt_append (by omega) (by omega)]; exact h6
    · rw [e1, h7, mkPower_append (by omega)]
    · rw [t1, h8, txt_append (by omega) (by omega)]
theorem Grow.txt {T : List ET} (g : Grow T) : ∀ {id : Int}, 1 ≤ id → id ≤ T.length → TxtOf T id := by
  refine Grow.rec_ (M := fun T => ∀ {id : Int}, 1 ≤ id → id ≤ T.length → TxtOf T id) (fun h1 h2 => by simp at h2; omega) (fun T e _ g ih => ?_) g
  intro id h1 h2
  simp only [List.length_append, List.length_cons, List.length_nil] at h2
  by_cases h : id ≤ T.length
  · exact (ih h1 h).append h1 h
  · have : id = (T.length : Int) + 1 := by omega
    subst this
    have ht : YtcmncfglcjcmhaaGreat.txt (T ++ [e]) ((T.length : Int) + 1) = tx1 (txts T) e.1 := by
      unfold YtcmncfglcjcmhaaGreat.txt
      have := gt_last (acc := txts T) (t := tx1 (txts T) e.1)
      rw [txts_len] at this
      rw [txts_append]; exact this
    cases g.last.2.2 with
    | letter b h3 h4 h5 =>
      refine .letter b h3 h4 h5 (ht.trans ?_)
      rw [eAt_last] at h5
      rw [h5]; rfl
    | pair l r h3 h4 h5 h6 h7 h8 =>
      refine .pair l r h3 h4 h5 h6 h7 h8 (ht.trans ?_)
      rw [eAt_last] at h8
      rw [h8, txt_append (by omega) (by omega), txt_append (by omega) (by omega)]; rfl
    | power x k h3 h4 h5 h6 h7 =>
      refine .power x k h3 h4 h5 h6 h7 (ht.trans ?_)
      rw [eAt_last] at h7
      rw [h7, txt_append (by omega) (by omega)]; rfl

/-! ### Weights of texts -/
def wOf : List Int → WT
  | [] => wUnit
  | c :: b => wJoin (wLetter c) (wOf b)
theorem dOf_ok : ∀ b : List Int, dOK (wOf b).2.2.2.2
  | [] => dOK_unit
  | c :: b => dOK_join _ _
theorem lines_nn : ∀ b : List Int, 0 ≤ (wOf b).2.1
  | [] => by decide
  | c :: b => by
    have := lines_nn b
    have h : 0 ≤ (wLetter c).2.1 := by unfold wLetter; split <;> simp
    simp only [wOf, wJoin]; omega
theorem wOf_len : ∀ b : List Int, (wOf b).1 = b.length
  | [] => rfl
  | c :: b => by simp only [wOf, wJoin, wLetter_len, wOf_len b, List.length_cons]; omega
theorem wOf_zero : ∀ b : List Int, (wOf b).2.1 = 0 → (wOf b).2.2.1 = (wOf b).1 ∧ (wOf b).2.2.2.1 = (wOf b).1
  | [] => fun _ => ⟨rfl, rfl⟩
  | c :: b => by
    have := lines_nn b
    have ih := wOf_zero b
    by_cases hc : c = 10
    · simp only [wOf, wJoin, wLetter, if_pos hc]; omega
    · simp only [wOf, wJoin, wLetter, if_neg hc]
      intro h
      have hb : (wOf b).2.1 = 0 := by omega
      have := ih hb
      simp only [if_true, if_pos hb]
      omega
theorem wJoin_assoc {a b c : WT} (ha : 0 ≤ a.2.1) (hb : 0 ≤ b.2.1) (hc : 0 ≤ c.2.1) : wJoin (wJoin a b) c = wJoin a (wJoin b c) := by
  simp only [wJoin]
  refine Prod.ext (by dsimp only; omega) (Prod.ext (by dsimp only; omega) (Prod.ext ?_ (Prod.ext ?_ (dJoin_assoc _ _ _))))
  · dsimp only; repeat' split
    all_goals omega
  · dsimp only; repeat' split
    all_goals omega
theorem wJoin_unit_l {a : WT} (hd : dOK a.2.2.2.2) (hz : a.2.1 = 0 → a.2.2.2.1 = a.1) : wJoin wUnit a = a := by
  simp only [wJoin, wUnit]
  refine Prod.ext (by dsimp only; omega) (Prod.ext (by dsimp only; omega) (Prod.ext ?_ (Prod.ext ?_ (dJoin_unit_l hd))))
  · dsimp only; simp only [if_true]; omega
  · dsimp only
    split
    · rename_i h; rw [hz h]; omega
    · rfl
theorem wJoin_unit_r {a : WT} (hd : dOK a.2.2.2.2) (hz : a.2.1 = 0 → a.2.2.1 = a.1) : wJoin a wUnit = a := by
  simp only [wJoin, wUnit]
  refine Prod.ext (by dsimp only; omega) (Prod.ext (by dsimp only; omega) (Prod.ext ?_ (Prod.ext ?_ (dJoin_unit_r hd))))
  · dsimp only
    split
    · rename_i h; rw [hz h]; omega
    · rfl
  · dsimp only; simp only [if_true]; omega
theorem wLetter_lines (c : Int) : 0 ≤ (wLetter c).2.1 := by unfold wLetter; split <;> simp
theorem wOf_append : ∀ a b : List Int, wOf (a ++ b) = wJoin (wOf a) (wOf b)
  | [], b => by
    rw [List.nil_append]
    exact (wJoin_unit_l (dOf_ok b) fun h => (wOf_zero b h).2).symm
  | c :: a, b => by
    rw [List.cons_append, wOf, wOf, wOf_append a b, wJoin_assoc (wLetter_lines c) (lines_nn a) (lines_nn b)]
theorem wOf_one {c : Int} (hc : 0 ≤ c ∧ c < 256) : wOf [c] = wLetter c := by
  have := wOK_letter hc
  rw [wOf, wOf]
  exact wJoin_unit_r this.dOK fun h => (this.zero h).1
theorem wRep_step {a : WT} (hl : 1 ≤ a.1) (hn : 0 ≤ a.2.1) (hz : a.2.1 = 0 → a.2.2.1 = a.1 ∧ a.2.2.2.1 = a.1) (hd : dOK a.2.2.2.2) (k : Nat) : wRep a ((k : Int) + 1) = wJoin (wRep a k) a := by
  have e1 : a.1 * ((k : Int) + 1) = a.1 * k + a.1 := by rw [Int.mul_add, Int.mul_one]
  have e2 : a.2.1 * ((k : Int) + 1) = a.2.1 * k + a.2.1 := by rw [Int.mul_add, Int.mul_one]
  have p1 : 0 ≤ a.1 * (k : Int) := Int.mul_nonneg (by omega) (by omega)
  have p2 : 0 ≤ a.2.1 * (k : Int) := Int.mul_nonneg hn (by omega)
  have et : ((k : Int) + 1).toNat = k + 1 := by omega
  cases k with
  | zero =>
    have r0 : wRep a ((0 : Nat) : Int) = wUnit := by unfold wRep; rw [if_pos (by simp)]
    have r1 : wRep a (((0 : Nat) : Int) + 1) = a := by
      unfold wRep
      have d1 : dNat a.2.2.2.2 (((0 : Nat) : Int) + 1).toNat = a.2.2.2.2 := dNat_one hd
      have m1 : a.1 * (((0 : Nat) : Int) + 1) = a.1 := by simp
      have m2 : a.2.1 * (((0 : Nat) : Int) + 1) = a.2.1 := by simp
      rw [m1, m2, d1, if_neg (by omega)]
      refine Prod.ext rfl (Prod.ext rfl (Prod.ext ?_ (Prod.ext ?_ rfl)))
      · dsimp only; split
        · rename_i h; exact (hz h).1.symm
        · rfl
      · dsimp only; split
        · rename_i h; exact (hz h).2.symm
        · rfl
    rw [r0, r1, wJoin_unit_l hd (fun h => (hz h).2)]
  | succ n =>
    have hne : a.1 * ((n + 1 : Nat) : Int) ≠ 0 := by
      have : 1 * 1 ≤ a.1 * ((n + 1 : Nat) : Int) := Int.mul_le_mul hl (by omega) (by decide) (by omega)
      omega
    unfold wRep
    rw [if_neg (by rw [e1]; omega), if_neg hne, et, e1, e2]
    have zz : a.2.1 * ((n + 1 : Nat) : Int) = 0 ↔ a.2.1 = 0 := by
      constructor
      · intro h
        rcases Int.mul_eq_zero.1 h with h | h
        · exact h
        · omega
      · intro h; rw [h]; simp
    simp only [wJoin]
    refine Prod.ext rfl (Prod.ext rfl (Prod.ext ?_ (Prod.ext ?_ ?_)))
    · dsimp only
      by_cases h : a.2.1 = 0
      · rw [if_pos h, if_pos (zz.2 h), (hz h).1]
      · rw [if_neg h, if_neg fun h' => h (zz.1 h'), if_neg h]
    · dsimp only
      by_cases h : a.2.1 = 0
      · rw [if_pos h, if_pos h, if_pos h]; omega
      · rw [if_neg h, if_neg h]
    · have : ((n + 1 : Nat) : Int).toNat = n + 1 := by omega
      rw [this]; rfl
theorem wOf_rep {t : List Int} (ht : 1 ≤ t.length) : ∀ k : Nat, wOf (List.replicate k t).flatten = wRep (wOf t) k
  | 0 => by simp [wRep, wOf]
  | k + 1 => by
    have h1 : 1 ≤ (wOf t).1 := by rw [wOf_len]; omega
    rw [show ((k + 1 : Nat) : Int) = (k : Int) + 1 from rfl, wRep_step h1 (lines_nn t) (wOf_zero t) (dOf_ok t), ← wOf_rep ht k, ← wOf_append]
    congr 1
    have e : List.replicate (k + 1) t = List.replicate k t ++ [t] := by rw [List.replicate_succ']
    rw [e]; simp
theorem Grow.weight {T : List ET} (g : Grow T) : ∀ {id : Int}, 0 ≤ id → id ≤ T.length → (eAt T id).2.1 = wOf (YtcmncfglcjcmhaaGreat.txt T id) ∧ ∀ c ∈ YtcmncfglcjcmhaaGreat.txt T id, 0 ≤ c ∧ c < 256 := by
  have key : ∀ (n : Nat) (id : Int), id.toNat = n → 0 ≤ id → id ≤ T.length → (eAt T id).2.1 = wOf (YtcmncfglcjcmhaaGreat.txt T id) ∧ ∀ c ∈ YtcmncfglcjcmhaaGreat.txt T id, 0 ≤ c ∧ c < 256 := by
    intro n
    induction n using Nat.strongRecOn with
    | ind n ih =>
      intro id hn h0 h1
      by_cases hz : id = 0
      · subst hz
        exact ⟨rfl, fun c hc => by rw [txt_zero] at hc; cases hc⟩
      cases g.txt (id := id) (by omega) h1 with
      | letter b h3 h4 h5 h6 =>
        rw [h5, h6, wOf_one ⟨h3, h4⟩]
        exact ⟨rfl, fun c hc => by simp at hc; subst hc; exact ⟨h3, h4⟩⟩
      | pair l r h3 h4 h5 h6 h7 h8 h9 =>
        have i1 := ih l.toNat (by omega) l rfl (by omega) (by omega)
        have i2 := ih r.toNat (by omega) r rfl (by omega) (by omega)
        rw [h8, h9, wOf_append, ← i1.1, ← i2.1]
        refine ⟨rfl, fun c hc => ?_⟩
        rcases List.mem_append.1 hc with h | h
        · exact i1.2 c h
        · exact i2.2 c h
      | power x k h3 h4 h5 h6 h7 h8 =>
        have i1 := ih x.toNat (by omega) x rfl (by omega) (by omega)
        have hp := (g.at_ (id := x) (by omega) (by omega)).2.2.2 h3
        rw [i1.1, wOf_len] at hp
        rw [h7, h8, wOf_rep (by omega), ← i1.1]
        refine ⟨?_, fun c hc => ?_⟩
        · show wRep (eAt T x).2.1 k = _
          rw [Int.toNat_of_nonneg (by omega)]
        · obtain ⟨t, ht, hc⟩ := List.mem_flatten.1 hc
          rw [List.mem_replicate] at ht
          rw [ht.2] at hc
          exact i1.2 c hc
  exact fun {id} h0 h1 => key _ id rfl h0 h1
theorem Grow.len {T : List ET} (g : Grow T) {id : Int} (h0 : 0 ≤ id) (h1 : id ≤ T.length) : (eAt T id).2.1.1 = (YtcmncfglcjcmhaaGreat.txt T id).length := by
  rw [(g.weight h0 h1).1, wOf_len]

end Go.Proofs.YtcmncfglcjcmhaaGreat
