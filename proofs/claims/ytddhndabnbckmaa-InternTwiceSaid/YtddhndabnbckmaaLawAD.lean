/- The walk of InternLimits, and the statement. -/
import Derived.Test.YtddhndabnbckmaaLawAC
namespace Go.Proofs.Ytddhndabnbckmaa
open Go.Den

theorem fresh_fr {F : Nat → Prop} {a b c : World} (e : Ext a b) (f : Fr F b c) (hF : ∀ x, F x → a.heap.size ≤ x) : Ext a c :=
  ⟨Nat.le_trans e.size f.size, fun x hx _ => by
    rw [f.same x (Nat.lt_of_lt_of_le hx e.size) (fun h => by have := hF x h; omega), e.same x hx (fun h => h)], f.pub.1.trans e.pub.1, f.pub.2.1.trans e.pub.2.1, f.pub.2.2.trans e.pub.2.2⟩
theorem intern_Weight_ok {w0 : World} {B : Nat → Prop} {p : Addr} {most : Int} {L : List ET} {id : Int} (st : Sto B w0 p most L) (hk : known L id = true) {K : WT × Value → World → Prop}
    (h : ∀ w', Ext w0 w' → K ((eAt L id).2.1, .nilIface) w') : C_intern_Store_Weight (some p) id K w0 := by
  refine intern_Weight_spec st fun w' e => ?_
  rw [if_pos hk]
  exact h w' e
theorem eAt_last (L : List ET) (e : ET) : eAt (L ++ [e]) ((L.length : Int) + 1) = e := by
  have h := eAt_get (L := L ++ [e]) (id := (L.length : Int) + 1) (by omega) (by simp)
  have e1 : ((L.length : Int) + 1 - 1).toNat = L.length := by omega
  rw [e1] at h
  simp at h
  exact h.symm
theorem known_last (L : List ET) (e : ET) : known (L ++ [e]) ((L.length : Int) + 1) = true := by
  unfold known
  simp only [List.length_append, List.length_cons, List.length_nil, decide_eq_true_eq]
  omega

theorem lim_some {b k n : Int} (h0 : 0 ≤ n) (hk : k * n ≤ 1152921504606846976) : ∃ L y, pPower (lim2 b k) 10 2 n = (L, (y, .nilIface)) ∧ LimY L y k (k * n) := by
  have kind : ∀ e ∈ lim2 b k, e.1.1 ≠ 2 := by
    intro e he
    simp only [lim2, List.mem_cons, List.not_mem_nil, or_false] at he
    rcases he with rfl | rfl
    · exact (by decide : (1 : Int) ≠ 2)
    · exact (by decide : (3 : Int) ≠ 2)
  by_cases hn0 : n = 0
  · subst hn0
    exact ⟨_, _, lim_zero, rfl, rfl, lim_len2 b k, by rw [Int.mul_zero]; rfl, fun _ => Int.mul_zero k, by simp [lim2], kind⟩
  by_cases hn1 : n = 1
  · subst hn1
    exact ⟨_, _, lim_one, rfl, rfl, lim_len2 b k, by rw [Int.mul_one]; exact lim_len2 b k, fun h => absurd h (by decide), by simp [lim2], kind⟩
  · refine ⟨_, _, lim_new (by omega) hk, rfl, rfl, lim_len32 b k n, lim_len33 b k n, fun h => absurd h (by decide), by simp [lim3], ?_⟩
    intro e he
    simp only [lim3, List.mem_cons, List.not_mem_nil, or_false] at he
    rcases he with rfl | rfl | rfl
    · exact (by decide : (1 : Int) ≠ 2)
    · exact (by decide : (3 : Int) ≠ 2)
    · exact (by decide : (3 : Int) ≠ 2)

theorem law10_InternLimits_spec {w0 : World} {b k0 n0 : Int} (hb : 0 ≤ b ∧ b < 256) {K : Bool → World → Prop} (h : ∀ w', Ext w0 w' → K true w') : C_law10_InternLimits b k0 n0 K w0 := by
  apply S_law10_InternLimits
  unfold F_law10_InternLimits
  refine law10_awake_spec fun w1 e1 => gd_f rfl (intern_New_spec fun p w2 B e2 hB st2 => gd_f rfl (intern_Letter_spec st2 hb ?_))
  rw [if_neg (by decide), if_neg (by decide), lim_1]
  refine fun w3 B3 k3 st3 => nilIfc_nil (gd_f rfl (arith_u64' ⟨by decide, fun t ht => ?_⟩))
  have ht2 : 0 ≤ t ∧ t < 1152921504606846975 := by
    rw [ht, Int.tmod_eq_emod_of_nonneg (by omega)]; omega
  clear ht
  refine arith_i64 (by omega) (by omega) (arith_i64 (by omega) (by omega) ?_)
  obtain ⟨k, hk⟩ : ∃ k, k = t + 2 := ⟨_, rfl⟩
  rw [← hk]
  have hk2 : 2 ≤ k ∧ k ≤ 1152921504606846976 := by omega
  clear hk ht2
  refine intern_Power_spec (x := 1) (k := k) (by omega) st3 ?_
  rw [lim_2 hk2.1 hk2.2]
  refine fun w4 B4 k4 st4 => intern_Weight_ok (id := 2) st4 rfl fun w5 e5 => ?_
  have e12 : Ext w0 w2 := e1.trans e2
  have hB2 : ∀ b, B b → w0.heap.size ≤ b := fun b hb => Nat.le_trans e1.size (hB b hb)
  have k34 := (k3.trans k4)
  have hB4 := k34.fresh hB2 e12.size
  have e05 : Ext w0 w5 := (ext_fresh e12 k34 hB2).trans e5
  have st5 := st4.ext e5
  refine (St.start w5 st5.lt).allocK fun a w6 s eA ha => s.st0 0 rfl (by rw [cells_length]; rfl) rfl fun w7 s fB => ?_
  have st7 : Sto B4 w7 p 10 (lim2 b k) := (st5.ext eA).fr fB fun x hx e => by
    have := st5.lt x hx
    omega
  refine ⟨fun x w => x.1 = false ∧ w = w7, nilIfc_nil (gd_f rfl (nilIfc_nil (gd_f rfl (s.ldi 0 0 rfl rfl ⟨?_, rfl⟩)))), ?_⟩
  · rw [lim_len2]; simp
  rintro ⟨x, _⟩ w ⟨hx, rfl⟩ _
  refine gd_f hx (intern_Power_spec (x := 1) (k := 1152921504606846977) (by decide) st7 ?_)
  rw [lim_3]
  refine fun w9 B9 k9 st9 => base_Is_err (by decide) (gd_f rfl ⟨by omega, ?_⟩)
  replace s := s.stp k9 st9.lt
  have hB9 := k9.fresh hB4 (Nat.le_trans e05.size (Nat.le_trans eA.size fB.size))
  rw [Int.tdiv_eq_ediv_of_nonneg (by decide)]
  obtain ⟨q, hq⟩ : ∃ q, q = 1152921504606846976 / k := ⟨_, rfl⟩
  have q1 : k * q ≤ 1152921504606846976 := by rw [hq]; exact Int.mul_ediv_self_le (by omega)
  have q2 : 1152921504606846976 < k * q + k := by rw [hq]; exact Int.lt_mul_ediv_self_add (by omega)
  have q3 : 1 ≤ q := by rw [hq]; exact Int.le_ediv_of_mul_le (by omega) (by omega)
  have q4 : q ≤ 1152921504606846976 := by rw [hq]; exact Int.ediv_le_self _ (by decide)
  rw [← hq]
  clear hq
  refine arith_i64 (by omega) (by omega) (arith_u64' ⟨by decide, fun u hu => ?_⟩)
  have hu2 : 0 ≤ u ∧ u < 4 := by
    rw [hu, Int.tmod_eq_emod_of_nonneg (by omega)]; omega
  clear hu
  refine arith_i64 (by omega) (by omega) (arith_i64 (by omega) (by omega) (arith_i64 (by omega) (by omega) ?_))
  obtain ⟨n, hn⟩ : ∃ n, n = u + q - 2 := ⟨_, rfl⟩
  rw [← hn]
  refine intern_Power_spec (x := 2) (k := n) (by omega) st9 ?_
  by_cases hneg : n < 0
  · rw [lim_neg hneg]
    refine fun w11 B11 k11 st11 => gd_t (by simpa using hneg) (base_Is_err (by decide) (h _ ?_))
    exact fresh_fr e05 (s.stp k11 st11.lt).fr (k11.fresh hB9 (Nat.le_trans e05.size s.fr.size))
  by_cases hlong : q < n
  · have hl : 1152921504606846976 < k * n := by
      have : k * (q + 1) ≤ k * n := Int.mul_le_mul_of_nonneg_left (by omega) (by omega)
      rw [Int.mul_add, Int.mul_one] at this
      omega
    rw [lim_long (by omega) hl]
    refine fun w11 B11 k11 st11 => gd_f (by simpa using hneg) (gd_t (by simpa using hlong) (base_Is_err (by decide) (h _ ?_)))
    exact fresh_fr e05 (s.stp k11 st11.lt).fr (k11.fresh hB9 (Nat.le_trans e05.size s.fr.size))
  have hkn : k * n ≤ 1152921504606846976 := Int.le_trans (Int.mul_le_mul_of_nonneg_left (by omega) (by omega)) q1
  have hkn0 : 0 ≤ k * n := Int.mul_nonneg (by omega) (by omega)
  obtain ⟨L, y, hp, hy⟩ := lim_some (b := b) (k := k) (n := n) (by omega) hkn
  rw [hp]
  refine fun w11 B11 k11 st11 => gd_f (by simpa using hneg) (gd_f (by simpa using hlong) (intern_Weight_ok (id := y) st11 hy.ky fun w14 e14 => ?_))
  have hB11 := k11.fresh hB9 (Nat.le_trans e05.size s.fr.size)
  replace s := (s.stp k11 st11.lt).ext e14
  have hna : ¬ B11 a := (s.loc _ (List.mem_cons_self ..)).2.1
  refine s.st0 0 rfl (by rw [cells_length, cells_length]) rfl fun w15 s f15 => ?_
  have st15 : Sto B11 w15 p 10 L := (st11.ext e14).fr f15 fun x hx e => by
    exact hna (e ▸ hx)
  have hs15 : w0.heap.size ≤ w15.heap.size := Nat.le_trans e05.size s.fr.size
  have hm : n * k = k * n := Int.mul_comm _ _
  refine ⟨fun x w => x.1 = false ∧ w = w15, nilIfc_nil (gd_f rfl (nilIfc_nil (gd_f rfl (s.ldi 0 0 rfl rfl (arith_i64 (by omega) (by omega) ⟨?_, rfl⟩))))), ?_⟩
  · rw [hy.ly, hm]; simp
  rintro ⟨x, _⟩ w ⟨hx, rfl⟩ _
  refine gd_f hx (intern_Pair_spec (l := 2) (r := y) st15 ?_)
  obtain ⟨y1, y2, y3⟩ := hy.pair
  by_cases hy0 : y = 0
  · have hz := hy.y0 hy0
    rw [y3 hy0]
    refine fun w17 B17 k17 st17 => intern_Weight_ok (id := 2) st17 hy.k2 fun w18 e18 => ((s.stp k17 st17.lt).ext e18).st0 0 rfl (by rw [cells_length, cells_length]) rfl fun w19 s _ => arith_i64 (by omega) (by omega) (arith_i64 (by omega) (by omega) ?_)
    refine gd_f (by simp; omega) (nilIfc_nil (gd_t rfl (nilIfc_nil (gd_t rfl (s.ldi 0 0 rfl rfl (arith_i64 (by omega) (by omega) (arith_i64 (by omega) (by omega) ?_)))))))
    have : ((eAt L 2).2.1.1 == k + n * k) = true := by rw [hy.l2]; simp; omega
    rw [this]
    exact h _ (fresh_fr e05 s.fr (k17.fresh hB11 hs15))
  by_cases hl : k + k * n ≤ 1152921504606846976
  · rw [y1 hl hy0]
    refine fun w17 B17 k17 st17 => intern_Weight_ok (id := (L.length : Int) + 1) st17 (known_last _ _) fun w18 e18 => ((s.stp k17 st17.lt).ext e18).st0 0 rfl (by rw [cells_length, cells_length]) rfl fun w19 s _ => arith_i64 (by omega) (by omega) (arith_i64 (by omega) (by omega) ?_)
    refine gd_f (by simp; omega) (nilIfc_nil (gd_t rfl (nilIfc_nil (gd_t rfl (s.ldi 0 0 rfl rfl (arith_i64 (by omega) (by omega) (arith_i64 (by omega) (by omega) ?_)))))))
    have : ((eAt (L ++ [mkPair L 2 y]) ((L.length : Int) + 1)).2.1.1 == k + n * k) = true := by
      rw [eAt_last]
      show ((eAt L 2).2.1.1 + (eAt L y).2.1.1 == k + n * k) = true
      rw [hy.l2, hy.ly, hm]; simp
    rw [this]
    exact h _ (fresh_fr e05 s.fr (k17.fresh hB11 hs15))
  · rw [y2 (by omega) hy0]
    refine fun w17 B17 k17 st17 => intern_Weight_ok (id := 0) st17 (by unfold known; simp) fun w18 e18 => ((s.stp k17 st17.lt).ext e18).st0 0 rfl (by rw [cells_length, cells_length]) rfl fun w19 s _ => arith_i64 (by omega) (by omega) (arith_i64 (by omega) (by omega) ?_)
    refine gd_t (by simp; omega) (base_Is_err (by decide) (h _ ?_))
    exact (fresh_fr e05 s.fr (k17.fresh hB11 hs15))

end Go.Proofs.Ytddhndabnbckmaa
