/- What the packages length, modular and digest compute, from their texts. -/
import Derived.Test.YtddhndabnbckmaaHeap
import Derived.Test.YtddhndabnbckmaaText1
import Derived.Test.YtddhndabnbckmaaText2
import Derived.Test.YtddhndabnbckmaaText3
import Derived.Test.YtddhndabnbckmaaText4
namespace Go.Proofs.Ytddhndabnbckmaa
open Go.Den

/-! ### Numbers -/
theorem fdiv_pow (x : Int) (k : Nat) : Int.fdiv x (2 ^ k) = x / 2 ^ k := Int.fdiv_eq_ediv_of_nonneg x (by exact Int.pow_nonneg (by decide))
theorem fdiv61 (x : Int) : Int.fdiv x (2 ^ min (Int.toNat (61 : Int)) (IntKind.bits .u64)) = x / 2305843009213693952 := by
  rw [show min (Int.toNat (61 : Int)) (IntKind.bits .u64) = 61 from rfl, fdiv_pow]; rfl
theorem fdiv32 (x : Int) : Int.fdiv x (2 ^ min (Int.toNat (32 : Int)) (IntKind.bits .u64)) = x / 4294967296 := by
  rw [show min (Int.toNat (32 : Int)) (IntKind.bits .u64) = 32 from rfl, fdiv_pow]; rfl
theorem mask (x : Int) (k : Nat) (m : Int) (hk : k ≤ 64) (hm : m = 2 ^ k - 1) (h0 : 0 ≤ x) (h1 : x < 18446744073709551616) :
    (((BitVec.ofInt (IntKind.bits .u64) x &&& BitVec.ofInt (IntKind.bits .u64) m).toNat : Nat) : Int) = x % 2 ^ k := by
  obtain ⟨n, rfl⟩ := Int.eq_ofNat_of_zero_le h0
  have hb : IntKind.bits .u64 = 64 := rfl
  rw [hb, BitVec.toNat_and, BitVec.toNat_ofInt, BitVec.toNat_ofInt]
  have e1 : ((n : Int) % ((2 ^ 64 : Nat) : Int)).toNat = n := by
    have : ((2 ^ 64 : Nat) : Int) = 18446744073709551616 := by decide
    rw [this]; omega
  have e2 : (m % ((2 ^ 64 : Nat) : Int)).toNat = 2 ^ k - 1 := by
    have h64 : ((2 ^ 64 : Nat) : Int) = 18446744073709551616 := by decide
    have hle : (2 : Nat) ^ k ≤ 2 ^ 64 := Nat.pow_le_pow_right (by decide) hk
    have hpos : 0 < (2 : Nat) ^ k := Nat.pow_pos (by decide)
    have hc : ((2 : Int) ^ k) = ((2 ^ k : Nat) : Int) := by simp
    rw [hm, hc, h64]
    have : (2 : Nat) ^ 64 = 18446744073709551616 := by decide
    omega
  rw [e1, e2, Nat.and_two_pow_sub_one_eq_mod]
  simp
theorem mask61 (x : Int) (h0 : 0 ≤ x) (h1 : x < 18446744073709551616) :
    (((BitVec.ofInt (IntKind.bits .u64) x &&& BitVec.ofInt (IntKind.bits .u64) (2305843009213693951 : Int)).toNat : Nat) : Int) = x % 2305843009213693952 :=
  mask x 61 _ (by decide) (by decide) h0 h1
theorem mask32 (x : Int) (h0 : 0 ≤ x) (h1 : x < 18446744073709551616) :
    (((BitVec.ofInt (IntKind.bits .u64) x &&& BitVec.ofInt (IntKind.bits .u64) (4294967295 : Int)).toNat : Nat) : Int) = x % 4294967296 :=
  mask x 32 _ (by decide) (by decide) h0 h1

variable {w0 : World}

/-! ### length -/
theorem length_Valid_spec {n : Int} {K : Bool → World → Prop} (h : K (decide (0 ≤ n ∧ n ≤ 1152921504606846976)) w0) : C_length_Valid n K w0 := by
  apply S_length_Valid
  unfold F_length_Valid
  refine gd_dec (fun h1 => ?_) (fun h1 => ?_)
  · have : decide (n ≤ 1152921504606846976) = decide (0 ≤ n ∧ n ≤ 1152921504606846976) := by simp [h1]
    rw [this]; exact h
  · have : false = decide (0 ≤ n ∧ n ≤ 1152921504606846976) := by simp [h1]
    rw [this]; exact h

def errV (n : Int) : Value := .iface t_api_Errno (.int .i64 n)

/-- for lengths -/
theorem length_Add_spec {a b : Int} {K : Int × Value → World → Prop} (ha : 0 ≤ a ∧ a ≤ 1152921504606846976) (hb : 0 ≤ b ∧ b ≤ 1152921504606846976)
    (h1 : a + b ≤ 1152921504606846976 → K (a + b, .nilIface) w0) (h2 : 1152921504606846976 < a + b → K (0, errV 2) w0) : C_length_Add a b K w0 := by
  apply S_length_Add
  unfold F_length_Add
  refine ⟨fun x w => x.1 = false ∧ w = w0, ?_, ?_⟩
  · refine length_Valid_spec ?_
    rw [decide_eq_true ha]
    refine gd_f rfl (length_Valid_spec ?_)
    rw [decide_eq_true hb]
    exact ⟨rfl, rfl⟩
  · rintro ⟨b', _⟩ w ⟨rfl, rfl⟩ _
    refine gd_f rfl (arith_i64 (by omega) (by omega) (gd_dec (fun h => h2 (by omega)) (fun h => arith_i64 (by omega) (by omega) (h1 (by omega)))))

theorem length_Mul_spec {a k : Int} {K : Int × Value → World → Prop} (ha : 0 ≤ a ∧ a ≤ 1152921504606846976) (hk : 0 ≤ k)
    (h1 : a * k ≤ 1152921504606846976 → K (a * k, .nilIface) w0) (h2 : 1152921504606846976 < a * k → K (0, errV 2) w0) : C_length_Mul a k K w0 := by
  apply S_length_Mul
  unfold F_length_Mul
  refine ⟨fun x w => x.1 = false ∧ w = w0, ?_, ?_⟩
  · refine length_Valid_spec ?_
    rw [decide_eq_true ha]
    exact gd_f rfl ⟨decide_eq_false (by omega), rfl⟩
  · rintro ⟨b', _⟩ w ⟨rfl, rfl⟩ _
    refine gd_f rfl (gd_eq (fun h => ?_) (fun h => ?_))
    · subst h
      have := h1 (by simp)
      simpa using this
    · have hp : 0 < a := by omega
      have hd : Int.tdiv 1152921504606846976 a = 1152921504606846976 / a := Int.tdiv_eq_ediv_of_nonneg (by decide)
      have hb : 0 ≤ 1152921504606846976 / a ∧ 1152921504606846976 / a ≤ 1152921504606846976 := ⟨Int.ediv_nonneg (by decide) (by omega), Int.ediv_le_self _ (by decide)⟩
      have hiff : 1152921504606846976 / a < k ↔ 1152921504606846976 < a * k := by
        rw [Int.mul_comm]; exact Int.ediv_lt_iff_lt_mul hp
      refine ⟨h, ?_⟩
      rw [hd]
      refine arith_i64 (by omega) (by omega) (gd_dec (fun h => h2 (hiff.1 h)) (fun h => ?_))
      have hle : a * k ≤ 1152921504606846976 := by
        have := mt hiff.2 h; omega
      have hnn : 0 ≤ a * k := Int.mul_nonneg ha.1 hk
      exact arith_i64 (by omega) (by omega) (h1 hle)

theorem length_Clip_spec {n lo hi : Int} {K : Int → World → Prop} (h : K (if n < lo then lo else if hi < n then hi else n) w0) : C_length_Clip n lo hi K w0 := by
  apply S_length_Clip
  unfold F_length_Clip
  refine gd_dec (fun h1 => ?_) (fun h1 => gd_dec (fun h2 => ?_) (fun h2 => ?_))
  · rwa [if_pos h1] at h
  · rwa [if_neg h1, if_pos h2] at h
  · rwa [if_neg h1, if_neg h2] at h

/-! ### modular: numbers modulo 2^61 - 1 -/
theorem reduce_val (x : Int) (h0 : 0 ≤ x) (h1 : x < 18446744073709551616) :
    (if 2305843009213693951 ≤ x % 2305843009213693952 + x / 2305843009213693952 then x % 2305843009213693952 + x / 2305843009213693952 - 2305843009213693951 else x % 2305843009213693952 + x / 2305843009213693952) = x % 2305843009213693951 := by
  split <;> omega

theorem modular_Reduce_spec {x : Int} {K : Int → World → Prop} (h0 : 0 ≤ x) (h1 : x < 18446744073709551616) (h : K (x % 2305843009213693951) w0) : C_modular_Reduce x K w0 := by
  apply S_modular_Reduce
  unfold F_modular_Reduce
  rw [mask61 x h0 h1, fdiv61]
  refine arith_u64 (by omega) (by omega) ⟨by decide, letZ_mk (arith_u64 (by omega) (by omega) ?_)⟩
  have hv := reduce_val x h0 h1
  refine ⟨fun y w => y.1 = x % 2305843009213693951 ∧ w = w0, gd_dec (fun h2 => ?_) (fun h2 => ?_), ?_⟩
  · rw [if_pos h2] at hv
    exact arith_u64 (by omega) (by omega) ⟨hv, rfl⟩
  · rw [if_neg h2] at hv
    exact ⟨hv, rfl⟩
  · rintro ⟨y, _⟩ w ⟨rfl, rfl⟩ _
    exact h

theorem modular_Add_spec {a b : Int} {K : Int → World → Prop} (ha : 0 ≤ a ∧ a < 18446744073709551616) (hb : 0 ≤ b ∧ b < 18446744073709551616) (h : K ((a + b) % 2305843009213693951) w0) : C_modular_Add a b K w0 := by
  apply S_modular_Add
  unfold F_modular_Add
  refine modular_Reduce_spec ha.1 ha.2 (modular_Reduce_spec hb.1 hb.2 (arith_u64 (by omega) (by omega) (modular_Reduce_spec (by omega) (by omega) ?_)))
  rwa [← Int.add_emod]

theorem mul_bound {a b A B : Int} (ha : 0 ≤ a) (hA : a ≤ A) (hb : 0 ≤ b) (hB : b ≤ B) : 0 ≤ a * b ∧ a * b ≤ A * B :=
  ⟨Int.mul_nonneg ha hb, Int.mul_le_mul hA hB hb (by omega)⟩

theorem mul64_core (a b c d : Int) (ha : 0 ≤ a ∧ a ≤ 4294967295 * 4294967295) (hb : 0 ≤ b ∧ b ≤ 4294967295 * 4294967295) (hc : 0 ≤ c ∧ c ≤ 4294967295 * 4294967295) (hd : 0 ≤ d ∧ d ≤ 4294967295 * 4294967295) :
    (0 ≤ a ∧ a < 18446744073709551616) ∧ (0 ≤ b ∧ b < 18446744073709551616) ∧ (0 ≤ b + a / 4294967296 ∧ b + a / 4294967296 < 18446744073709551616) ∧ (0 ≤ c ∧ c < 18446744073709551616) ∧
    (0 ≤ (b + a / 4294967296) % 4294967296 + c ∧ (b + a / 4294967296) % 4294967296 + c < 18446744073709551616) ∧ (0 ≤ d ∧ d < 18446744073709551616) ∧ d + (b + a / 4294967296) / 4294967296 < 18446744073709551616 ∧
    d + (b + a / 4294967296) / 4294967296 + ((b + a / 4294967296) % 4294967296 + c) / 4294967296 < 18446744073709551616 ∧
    d + (b + a / 4294967296) / 4294967296 + ((b + a / 4294967296) % 4294967296 + c) / 4294967296 = (d * 18446744073709551616 + b * 4294967296 + c * 4294967296 + a) / 18446744073709551616 := by
  refine ⟨by omega, by omega, by omega, by omega, by omega, by omega, by omega, by omega, by omega⟩

/-- the product of two words in two words -/
theorem mul64_val (x y : Int) (hx : 0 ≤ x ∧ x < 18446744073709551616) (hy : 0 ≤ y ∧ y < 18446744073709551616) :
    (0 ≤ (x % 4294967296 * (y % 4294967296)) ∧ (x % 4294967296 * (y % 4294967296)) < 18446744073709551616) ∧ (0 ≤ (x / 4294967296 * (y % 4294967296)) ∧ (x / 4294967296 * (y % 4294967296)) < 18446744073709551616) ∧ (0 ≤ (x / 4294967296 * (y % 4294967296)) + (x % 4294967296 * (y % 4294967296)) / 4294967296 ∧ (x / 4294967296 * (y % 4294967296)) + (x % 4294967296 * (y % 4294967296)) / 4294967296 < 18446744073709551616) ∧ (0 ≤ (x % 4294967296 * (y / 4294967296)) ∧ (x % 4294967296 * (y / 4294967296)) < 18446744073709551616) ∧
    (0 ≤ ((x / 4294967296 * (y % 4294967296)) + (x % 4294967296 * (y % 4294967296)) / 4294967296) % 4294967296 + (x % 4294967296 * (y / 4294967296)) ∧ ((x / 4294967296 * (y % 4294967296)) + (x % 4294967296 * (y % 4294967296)) / 4294967296) % 4294967296 + (x % 4294967296 * (y / 4294967296)) < 18446744073709551616) ∧ (0 ≤ (x / 4294967296 * (y / 4294967296)) ∧ (x / 4294967296 * (y / 4294967296)) < 18446744073709551616) ∧ (x / 4294967296 * (y / 4294967296)) + ((x / 4294967296 * (y % 4294967296)) + (x % 4294967296 * (y % 4294967296)) / 4294967296) / 4294967296 < 18446744073709551616 ∧
    (x / 4294967296 * (y / 4294967296)) + ((x / 4294967296 * (y % 4294967296)) + (x % 4294967296 * (y % 4294967296)) / 4294967296) / 4294967296 + (((x / 4294967296 * (y % 4294967296)) + (x % 4294967296 * (y % 4294967296)) / 4294967296) % 4294967296 + (x % 4294967296 * (y / 4294967296))) / 4294967296 < 18446744073709551616 ∧
    (x / 4294967296 * (y / 4294967296)) + ((x / 4294967296 * (y % 4294967296)) + (x % 4294967296 * (y % 4294967296)) / 4294967296) / 4294967296 + (((x / 4294967296 * (y % 4294967296)) + (x % 4294967296 * (y % 4294967296)) / 4294967296) % 4294967296 + (x % 4294967296 * (y / 4294967296))) / 4294967296 = x * y / 18446744073709551616 := by
  have hx0 : 0 ≤ x % 4294967296 ∧ x % 4294967296 ≤ 4294967295 := by omega
  have hx1 : 0 ≤ x / 4294967296 ∧ x / 4294967296 ≤ 4294967295 := by omega
  have hy0 : 0 ≤ y % 4294967296 ∧ y % 4294967296 ≤ 4294967295 := by omega
  have hy1 : 0 ≤ y / 4294967296 ∧ y / 4294967296 ≤ 4294967295 := by omega
  have ex : x = x / 4294967296 * 4294967296 + x % 4294967296 := by omega
  have ey : y = y / 4294967296 * 4294967296 + y % 4294967296 := by omega
  have e : ∀ x0 x1 y0 y1 : Int, (x1 * 4294967296 + x0) * (y1 * 4294967296 + y0) = (x1 * y1) * 18446744073709551616 + (x1 * y0) * 4294967296 + (x0 * y1) * 4294967296 + x0 * y0 := by
    intro x0 x1 y0 y1
    simp only [Int.add_mul, Int.mul_add]
    have r1 : x1 * 4294967296 * (y1 * 4294967296) = x1 * y1 * 18446744073709551616 := by
      rw [Int.mul_assoc, Int.mul_left_comm 4294967296 y1, ← Int.mul_assoc x1]; rfl
    have r2 : x1 * 4294967296 * y0 = x1 * y0 * 4294967296 := by rw [Int.mul_assoc, Int.mul_comm 4294967296 y0, ← Int.mul_assoc]
    have r3 : x0 * (y1 * 4294967296) = x0 * y1 * 4294967296 := by rw [← Int.mul_assoc]
    rw [r1, r2, r3]; omega
  have exy : x * y = (x / 4294967296 * (y / 4294967296)) * 18446744073709551616 + (x / 4294967296 * (y % 4294967296)) * 4294967296 + (x % 4294967296 * (y / 4294967296)) * 4294967296 + x % 4294967296 * (y % 4294967296) := by
    rw [← e, ← ex, ← ey]
  rw [exy]
  exact mul64_core _ _ _ _ (mul_bound hx0.1 hx0.2 hy0.1 hy0.2) (mul_bound hx1.1 hx1.2 hy0.1 hy0.2) (mul_bound hx0.1 hx0.2 hy1.1 hy1.2) (mul_bound hx1.1 hx1.2 hy1.1 hy1.2)

theorem bits_Mul64_spec {x y : Int} {K : Int × Int → World → Prop} (hx : 0 ≤ x ∧ x < 18446744073709551616) (hy : 0 ≤ y ∧ y < 18446744073709551616)
    (h : K (x * y / 18446744073709551616, x * y % 18446744073709551616) w0) : C_bits_Mul64 x y K w0 := by
  apply S_bits_Mul64
  unfold F_bits_Mul64
  obtain ⟨b1, b2, b3, b4, b5, b6, b7, b8, e⟩ := mul64_val x y hx hy
  rw [mask32 x hx.1 hx.2, mask32 y hy.1 hy.2]
  simp only [fdiv32]
  refine arith_u64 (by omega) (by omega) ⟨by decide, letZ_mk (arith_u64 (by omega) (by omega) ⟨by decide, letZ_mk (arith_u64 (by omega) (by omega) (arith_u64 (by omega) (by omega) ⟨by decide, letZ_mk (arith_u64 (by omega) (by omega) ?_)⟩))⟩)⟩
  rw [mask32 _ b3.1 b3.2]
  refine arith_u64 (by omega) (by omega) ⟨by decide, letZ_mk (arith_u64 (by omega) (by omega) (arith_u64 (by omega) (by omega) (arith_u64 (by omega) (by omega) (arith_u64 (by omega) (by omega) ⟨by decide, letZ_mk (arith_u64 (by omega) (by omega) (arith_u64' ?_))⟩))))⟩
  rw [e]; exact h

theorem modular_Mul_spec {a b : Int} {K : Int → World → Prop} (ha : 0 ≤ a ∧ a < 18446744073709551616) (hb : 0 ≤ b ∧ b < 18446744073709551616) (h : K ((a * b) % 2305843009213693951) w0) : C_modular_Mul a b K w0 := by
  apply S_modular_Mul
  unfold F_modular_Mul
  refine modular_Reduce_spec ha.1 ha.2 (modular_Reduce_spec hb.1 hb.2 (bits_Mul64_spec (by omega) (by omega) ?_))
  have hm := mul_bound (a := a % 2305843009213693951) (b := b % 2305843009213693951) (A := 2305843009213693950) (B := 2305843009213693950) (by omega) (by omega) (by omega) (by omega)
  have e : a % 2305843009213693951 * (b % 2305843009213693951) % 2305843009213693951 = a * b % 2305843009213693951 := (Int.mul_emod a b _).symm
  generalize a % 2305843009213693951 * (b % 2305843009213693951) = p at *
  have hsh : (2 : Int) ^ min (Int.toNat (3 : Int)) (IntKind.bits .u64) = 8 := rfl
  rw [hsh, mask61 _ (by omega) (by omega), fdiv61]
  dsimp only
  refine ⟨by decide, arith_u64 (by omega) (by omega) ⟨by decide, letZ_mk (arith_u64 (by omega) (by omega) (arith_u64 (by omega) (by omega) (arith_u64 (by omega) (by omega) (modular_Reduce_spec (by omega) (by omega) ?_))))⟩⟩
  have : (p / 18446744073709551616 * 8 + p % 18446744073709551616 / 2305843009213693952 + p % 18446744073709551616 % 2305843009213693952) % 2305843009213693951 = a * b % 2305843009213693951 := by
    rw [← e]; omega
  rw [this]; exact h

theorem pow_step (r a : Int) (m : Nat) (P : Int) : (r * a ^ m) % P = (if m % 2 = 1 then r * a % P else r) * ((a * a) % P) ^ (m / 2) % P := by
  have hm : m = 2 * (m / 2) + m % 2 := by omega
  have e1 : a ^ m = a ^ (m % 2) * (a * a) ^ (m / 2) := by
    conv => lhs; rw [hm]
    have ea : a ^ 2 = a * a := by rw [Int.pow_succ, Int.pow_succ, Int.pow_zero, Int.one_mul]
    rw [Int.pow_add, Int.pow_mul, Int.mul_comm, ea]
  have e2 : ∀ k : Nat, ((a * a) % P) ^ k % P = (a * a) ^ k % P := by
    intro k
    induction k with
    | zero => simp
    | succ k ih => rw [Int.pow_succ, Int.pow_succ, Int.mul_emod, ih, Int.emod_emod_of_dvd _ (Int.dvd_refl P), ← Int.mul_emod]
  rcases Nat.mod_two_eq_zero_or_one m with h | h
  · rw [e1, h, if_neg (by decide)]
    rw [Int.mul_emod r (((a * a) % P) ^ (m / 2)), e2, ← Int.mul_emod]
    simp
  · rw [e1, h, if_pos rfl]
    rw [Int.mul_emod (r * a % P), e2, Int.emod_emod_of_dvd _ (Int.dvd_refl P), ← Int.mul_emod]
    rw [Int.pow_succ, Int.pow_zero, Int.one_mul, Int.mul_assoc]

theorem modular_Pow_spec {a n : Int} {K : Int → World → Prop} (ha : 0 ≤ a ∧ a < 18446744073709551616) (hn : 0 ≤ n ∧ n < 18446744073709551616) (h : K (a ^ n.toNat % 2305843009213693951) w0) : C_modular_Pow a n K w0 := by
  apply S_modular_Pow
  unfold F_modular_Pow
  refine modular_Reduce_spec ha.1 ha.2 ?_
  refine ⟨fun x w => w = w0 ∧ (0 ≤ x.1 ∧ x.1 < 2305843009213693951) ∧ (0 ≤ x.2.1 ∧ x.2.1 < 18446744073709551616) ∧ (0 ≤ x.2.2.1 ∧ x.2.2.1 < 2305843009213693951) ∧ x.2.2.1 * x.1 ^ x.2.1.toNat % 2305843009213693951 = a ^ n.toNat % 2305843009213693951,
    fun x _ => x.2.1.toNat, ?_, ?_⟩
  · refine ⟨rfl, by dsimp only; omega, hn, ⟨by dsimp only; omega, by dsimp only; omega⟩, ?_⟩
    dsimp only
    rw [Int.one_mul]
    generalize n.toNat = k
    induction k with
    | zero => simp
    | succ k ih => rw [Int.pow_succ, Int.pow_succ, Int.mul_emod, ih, Int.emod_emod_of_dvd _ (Int.dvd_refl _), ← Int.mul_emod]
  · rintro ⟨b, m, r, _⟩ w ⟨hw, hb, hm, hr, e⟩ _
    subst hw
    dsimp only at hb hm hr e ⊢
    refine gd_dec (fun hpos => ?_) (fun hpos => ?_)
    · refine ⟨fun y w' => y.1 = (if m.toNat % 2 = 1 then r * b % 2305843009213693951 else r) ∧ w' = w, ⟨by decide, letZ_mk ?_⟩, ?_⟩
      · rw [Int.tmod_eq_emod_of_nonneg hm.1]
        refine gd_eq (fun h1 => ?_) (fun h1 => ?_)
        · exact modular_Mul_spec (by omega) (by omega) ⟨by rw [if_pos (by omega)], rfl⟩
        · exact ⟨by rw [if_neg (by omega)], rfl⟩
      · rintro ⟨y, _⟩ w ⟨rfl, rfl⟩ _
        refine modular_Mul_spec (by omega) (by omega) ⟨by decide, ?_⟩
        rw [Int.tdiv_eq_ediv_of_nonneg hm.1]
        refine arith_u64 (by omega) (by omega) ⟨⟨rfl, by omega, by omega, ?_, ?_⟩, ?_⟩
        · dsimp only; split <;> omega
        · rw [← e, pow_step r b m.toNat]
          congr 2
          rw [show (m / 2).toNat = m.toNat / 2 by omega]
        · omega
    · have : m = 0 := by omega
      subst this
      simp only [Int.toNat_zero, Int.pow_zero, Int.mul_one] at e
      rw [Int.emod_eq_of_lt hr.1 hr.2] at e
      rw [e]; exact h


/-! ### digest -/
abbrev PP : Int := 2305843009213693951
def dJoin (a b : Int × Int) : Int × Int := ((a.1 * b.2 + b.1) % PP, a.2 * b.2 % PP)
def dUnit : Int × Int := (0, 1)
def dLetter (b : Int) : Int × Int := (b + 1, 1103515245)
def dNat (d : Int × Int) : Nat → Int × Int
  | 0 => dUnit
  | k + 1 => dJoin (dNat d k) d
def dOK (d : Int × Int) : Prop := (0 ≤ d.1 ∧ d.1 < PP) ∧ (0 ≤ d.2 ∧ d.2 < PP)
theorem dOK_join (a b : Int × Int) : dOK (dJoin a b) := ⟨⟨Int.emod_nonneg _ (by decide), Int.emod_lt_of_pos _ (by decide)⟩, ⟨Int.emod_nonneg _ (by decide), Int.emod_lt_of_pos _ (by decide)⟩⟩
theorem dOK_unit : dOK dUnit := ⟨⟨by decide, by decide⟩, ⟨by decide, by decide⟩⟩
theorem dOK_nat (d : Int × Int) : ∀ k, dOK (dNat d k)
  | 0 => dOK_unit
  | _ + 1 => dOK_join _ _
theorem dOK_letter {b : Int} (h : 0 ≤ b ∧ b < 256) : dOK (dLetter b) := ⟨⟨by simp only [dLetter]; omega, by simp only [dLetter, PP]; omega⟩, ⟨by simp only [dLetter]; omega, by simp only [dLetter, PP]; omega⟩⟩

theorem emod_mul_add (x y z P : Int) : (x % P * y + z) % P = (x * y + z) % P := by
  rw [Int.add_emod, Int.mul_emod, Int.emod_emod_of_dvd _ (Int.dvd_refl P), ← Int.mul_emod, ← Int.add_emod]
theorem emod_mul' (x y P : Int) : x % P * y % P = x * y % P := by
  rw [Int.mul_emod, Int.emod_emod_of_dvd _ (Int.dvd_refl P), ← Int.mul_emod]
theorem emod_mul_r (x y P : Int) : x * (y % P) % P = x * y % P := by
  rw [Int.mul_emod, Int.emod_emod_of_dvd _ (Int.dvd_refl P), ← Int.mul_emod]

theorem dJoin_assoc (a b c : Int × Int) : dJoin (dJoin a b) c = dJoin a (dJoin b c) := by
  unfold dJoin
  simp only [Prod.mk.injEq]
  constructor
  · rw [emod_mul_add]
    have h0 : (a.1 * (b.2 * c.2 % PP) + (b.1 * c.2 + c.1) % PP) % PP = (a.1 * (b.2 * c.2) + (b.1 * c.2 + c.1) % PP) % PP := by
      rw [Int.add_emod (a.1 * _), emod_mul_r, ← Int.add_emod]
    rw [h0]
    have e : (a.1 * b.2 + b.1) * c.2 + c.1 = a.1 * (b.2 * c.2) + (b.1 * c.2 + c.1) := by rw [Int.add_mul, Int.mul_assoc, Int.add_assoc]
    rw [e]
    conv => rhs; rw [Int.add_emod, Int.emod_emod_of_dvd _ (Int.dvd_refl PP), ← Int.add_emod]
  · rw [emod_mul', emod_mul_r, Int.mul_assoc]
theorem dJoin_unit_l {d : Int × Int} (h : dOK d) : dJoin dUnit d = d := by
  unfold dJoin dUnit
  obtain ⟨x, y⟩ := d
  simp only [dOK] at h
  simp only [Int.zero_mul, Int.zero_add, Int.one_mul, Prod.mk.injEq]
  exact ⟨Int.emod_eq_of_lt h.1.1 h.1.2, Int.emod_eq_of_lt h.2.1 h.2.2⟩
theorem dJoin_unit_r {d : Int × Int} (h : dOK d) : dJoin d dUnit = d := by
  unfold dJoin dUnit
  obtain ⟨x, y⟩ := d
  simp only [dOK] at h
  simp only [Int.mul_one, Int.add_zero, Prod.mk.injEq]
  exact ⟨Int.emod_eq_of_lt h.1.1 h.1.2, Int.emod_eq_of_lt h.2.1 h.2.2⟩
theorem dNat_add {d : Int × Int} (m n : Nat) : dNat d (m + n) = dJoin (dNat d m) (dNat d n) := by
  induction n with
  | zero => rw [Nat.add_zero, dNat, dJoin_unit_r (dOK_nat d m)]
  | succ n ih => rw [← Nat.add_assoc, dNat, ih, dNat, dJoin_assoc]
theorem dNat_mul {d : Int × Int} (hd : dOK d) (m n : Nat) : dNat d (m * n) = dNat (dNat d m) n := by
  induction n with
  | zero => rfl
  | succ n ih => rw [Nat.mul_succ, dNat_add, ih, dNat]
theorem dNat_one {d : Int × Int} (hd : dOK d) : dNat d 1 = d := by rw [dNat, dNat, dJoin_unit_l hd]

theorem digest_Unit_spec {K : Int × Int → World → Prop} (h : ∀ w', Ext w0 w' → K dUnit w') : C_digest_Unit K w0 := by
  apply S_digest_Unit
  unfold F_digest_Unit
  exact (St.init w0).allocK fun b1 w1 s _ _ => s.st0 0 rfl rfl rfl fun w2 s _ => s.ld0 (x := (_, _)) 0 rfl rfl (h _ s.fr)

theorem digest_Letter_spec {b : Int} (hb : 0 ≤ b ∧ b < 256) {K : Int × Int → World → Prop} (h : ∀ w', Ext w0 w' → K (dLetter b) w') : C_digest_Letter b K w0 := by
  apply S_digest_Letter
  unfold F_digest_Letter
  exact (St.init w0).allocK fun b1 w1 s _ _ => arith_u64 (by omega) (by omega) (arith_u64 (by omega) (by omega) (s.st0 0 rfl rfl rfl fun w2 s _ => s.ld0 (x := (_, _)) 0 rfl rfl (h _ s.fr)))

theorem digest_Join_spec {a b : Int × Int} (ha : dOK a) (hb : dOK b) {K : Int × Int → World → Prop} (h : ∀ w', Ext w0 w' → K (dJoin a b) w') : C_digest_Join a b K w0 := by
  apply S_digest_Join
  unfold F_digest_Join
  obtain ⟨⟨a1, a2⟩, ⟨a3, a4⟩⟩ := ha
  obtain ⟨⟨b1, b2⟩, ⟨b3, b4⟩⟩ := hb
  simp only [PP] at a2 a4 b2 b4
  refine (St.init w0).allocK fun b1 w1 s _ _ => s.allocK fun b2 w2 s _ _ => s.allocK fun b3 w3 s _ _ => s.drawK fun w4 s _ _ => ?_
  refine s.ldi 2 0 rfl rfl (s.ldi 1 1 rfl rfl (s.ldi 1 0 rfl rfl (s.ldi 2 1 rfl rfl (s.ldi 1 1 rfl rfl ?_))))
  refine modular_Mul_spec (by omega) (by omega) ⟨s.still 1 1 rfl rfl, s.still 2 1 rfl rfl, s.still 1 0 rfl rfl, ?_⟩
  have hm : 0 ≤ a.1 * b.2 % 2305843009213693951 ∧ a.1 * b.2 % 2305843009213693951 < 2305843009213693951 := ⟨Int.emod_nonneg _ (by decide), Int.emod_lt_of_pos _ (by decide)⟩
  refine modular_Add_spec (by omega) (by omega) ⟨s.still 1 1 rfl rfl, s.still 2 1 rfl rfl, modular_Mul_spec (by omega) (by omega) ?_⟩
  refine s.st0 0 rfl rfl rfl fun w5 s _ => s.ld0 (x := (_, _)) 0 rfl rfl ?_
  have := h _ s.fr
  unfold dJoin at this
  have e : (a.1 * b.2 % 2305843009213693951 + b.1) % 2305843009213693951 = (a.1 * b.2 + b.1) % PP := by
    simp only [PP]
    rw [Int.add_emod, Int.emod_emod_of_dvd _ (Int.dvd_refl _), ← Int.add_emod]
  rw [e]; exact this

theorem digest_Repeat_spec {d : Int × Int} {k : Int} (hd : dOK d) (hk : 0 ≤ k ∧ k ≤ 9223372036854775807) {K : Int × Int → World → Prop} (h : ∀ w', Ext w0 w' → K (dNat d k.toNat) w') : C_digest_Repeat d k K w0 := by
  apply S_digest_Repeat
  unfold F_digest_Repeat
  refine (St.init w0).allocK fun b1 w1 s _ _ => s.allocK fun b2 w2 s _ _ => digest_Unit_spec fun w3 e => (s.ext e).allocK fun b4 w4 s _ _ => s.st0 0 rfl rfl rfl fun w5 s _ => ?_
  refine ⟨fun x w => ∃ d1 r z, St w0 (fun _ => False) [(b4, cells yapi_Digest r), (b2, z), (b1, cells yapi_Digest d1)] w ∧ z.length = 2 ∧ dOK d1 ∧ dOK r ∧ 0 ≤ x.1 ∧ x.1 ≤ 9223372036854775807 ∧ dJoin r (dNat d1 x.1.toNat) = dNat d k.toNat,
    fun x _ => x.1.toNat, ⟨d, dUnit, _, s, rfl, hd, dOK_unit, hk.1, hk.2, dJoin_unit_l (dOK_nat _ _)⟩, ?_⟩
  rintro ⟨m, _⟩ w ⟨d1, r, z, s, hz, hd1, hr, hm0, hm1, e⟩ _
  dsimp only at hm0 hm1 e ⊢
  refine gd_dec (fun hpos => ?_) (fun hpos => ?_)
  · refine ⟨fun _ w' => St w0 (fun _ => False) [(b4, cells yapi_Digest (if m.toNat % 2 = 1 then dJoin r d1 else r)), (b2, z), (b1, cells yapi_Digest d1)] w', ⟨by decide, letZ_mk ?_⟩, ?_⟩
    · rw [Int.tmod_eq_emod_of_nonneg hm0]
      refine gd_eq (fun h1 => ?_) (fun h1 => ?_)
      · refine s.ld0 0 rfl rfl (s.ld0 2 rfl rfl (digest_Join_spec hr hd1 fun w8 e8 => (s.ext e8).st0 0 rfl rfl rfl fun w9 s _ => ?_))
        rw [if_pos (by omega)]; exact s
      · rw [if_neg (by omega)]; exact s
    · rintro _ w7 s _
      refine s.ld0 2 rfl rfl (s.ld0 2 rfl rfl (digest_Join_spec hd1 hd1 fun w8 e8 => (s.ext e8).st0 2 rfl rfl rfl fun w9 s _ => ⟨by decide, ?_⟩))
      rw [Int.tdiv_eq_ediv_of_nonneg hm0]
      refine arith_i64 (by omega) (by omega) ⟨⟨dJoin d1 d1, _, _, s, hz, dOK_join _ _, ?_, by omega, by omega, ?_⟩, by omega⟩
      · split
        · exact dOK_join _ _
        · exact hr
      · rw [← e, show (m / 2).toNat = m.toNat / 2 by omega]
        have e2 : dNat (dJoin d1 d1) (m.toNat / 2) = dNat d1 (2 * (m.toNat / 2)) := by
          rw [dNat_mul hd1]
          congr 1
          rw [dNat, dNat_one hd1]
        have hmm : m.toNat = m.toNat % 2 + 2 * (m.toNat / 2) := by omega
        rw [e2]
        conv => rhs; rw [hmm]
        rw [dNat_add, ← dJoin_assoc]
        rcases Nat.mod_two_eq_zero_or_one m.toNat with h0 | h0
        · rw [if_neg (by omega), h0, dNat, dJoin_unit_r hr]
        · rw [if_pos h0, h0, dNat_one hd1]
  · have : m = 0 := by omega
    subst this
    refine s.ld0 0 rfl rfl (s.st0 1 rfl hz.symm rfl fun w9 s _ => s.ld0 1 rfl rfl ?_)
    have : r = dNat d k.toNat := by rw [← e]; exact (dJoin_unit_r hr).symm
    rw [this]
    exact h _ s.fr

end Go.Proofs.Ytddhndabnbckmaa
