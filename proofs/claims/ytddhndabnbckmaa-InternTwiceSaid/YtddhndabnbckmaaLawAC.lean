/- The limits of lengths: the walk of InternLimits. -/
import Derived.Test.YtddhndabnbckmaaLawAA
namespace Go.Proofs.Ytddhndabnbckmaa
open Go.Den

variable {w0 : World}

theorem lkR_none {L : List ET} {r : RT} (h : ∀ e ∈ L, e.1 ≠ r) : lkR L r = none := by
  unfold lkR lk
  have : (idx L).find? (fun p => beqT yapi_Rule r p.1) = none := by
    rw [List.find?_eq_none]
    intro x hx hb
    have hr := (beqT_iff yapi_Rule rfl _ _).1 hb
    unfold idx at hx
    obtain ⟨q, hq, rfl⟩ := List.mem_map.1 hx
    obtain ⟨a, i⟩ := q
    obtain ⟨-, -, ha⟩ := List.mem_zipIdx hq
    exact h a (by rw [ha]; exact List.getElem_mem _) hr.symm
  rw [this]; rfl
theorem wLetter_len (b : Int) : (wLetter b).1 = 1 := by unfold wLetter; split <;> rfl
theorem wRep_len (a : WT) (k : Int) : (wRep a k).1 = a.1 * k := by
  unfold wRep
  split
  · rename_i h; rw [h]; rfl
  · rfl

def lim1 (b : Int) : List ET := [mkLetter b]
def lim2 (b k : Int) : List ET := [mkLetter b, mkPower (lim1 b) 1 k]
def lim3 (b k n : Int) : List ET := [mkLetter b, mkPower (lim1 b) 1 k, mkPower (lim2 b k) 2 n]
theorem lim_len1 (b : Int) : (eAt (lim1 b) 1).2.1.1 = 1 := wLetter_len b
theorem lim_len2 (b k : Int) : (eAt (lim2 b k) 2).2.1.1 = k := by
  show (wRep (eAt (lim1 b) 1).2.1 k).1 = k
  rw [wRep_len, lim_len1, Int.one_mul]
theorem lim_len32 (b k n : Int) : (eAt (lim3 b k n) 2).2.1.1 = k := lim_len2 b k
theorem lim_len33 (b k n : Int) : (eAt (lim3 b k n) 3).2.1.1 = k * n := by
  show (wRep (eAt (lim2 b k) 2).2.1 n).1 = k * n
  rw [wRep_len, lim_len2]
theorem lim_1 (b : Int) : pLetter [] 10 b = (lim1 b, (1, .nilIface)) := rfl
theorem lim_2 {b k : Int} (h1 : 2 ≤ k) (h2 : k ≤ 1152921504606846976) : pPower (lim1 b) 10 1 k = (lim2 b k, (2, .nilIface)) := by
  have hk : known (lim1 b) 1 = true := rfl
  unfold pPower
  rw [hk, if_neg (by simp; omega), if_neg (by omega), if_neg (by omega), lim_len1, if_neg (by omega)]
  unfold pAdd
  rw [lkR_none (fun e he => by
    simp only [lim1, List.mem_singleton] at he
    subst he
    simp [mkLetter, mkPower])]
  rfl
theorem lim_3 {b k : Int} : pPower (lim2 b k) 10 1 1152921504606846977 = (lim2 b k, (0, errV 2)) := by
  have hk : known (lim2 b k) 1 = true := rfl
  unfold pPower
  rw [hk, if_neg (by decide), if_neg (by decide), if_neg (by decide)]
  have : (eAt (lim2 b k) 1).2.1.1 = 1 := lim_len1 b
  rw [this, if_pos (by decide)]
theorem lim_neg {b k n : Int} (hn : n < 0) : pPower (lim2 b k) 10 2 n = (lim2 b k, (0, errV 1)) := by
  unfold pPower
  rw [if_pos (Or.inr hn)]
theorem lim_long {b k n : Int} (hn : 2 ≤ n) (hl : 1152921504606846976 < k * n) : pPower (lim2 b k) 10 2 n = (lim2 b k, (0, errV 2)) := by
  have hk : known (lim2 b k) 2 = true := rfl
  unfold pPower
  rw [hk, if_neg (by simp; omega), if_neg (by omega), if_neg (by omega), lim_len2, if_pos hl]
theorem lim_zero {b k : Int} : pPower (lim2 b k) 10 2 0 = (lim2 b k, (0, .nilIface)) := rfl
theorem lim_one {b k : Int} : pPower (lim2 b k) 10 2 1 = (lim2 b k, (2, .nilIface)) := rfl
theorem lim_new {b k n : Int} (hn : 2 ≤ n) (hl : k * n ≤ 1152921504606846976) : pPower (lim2 b k) 10 2 n = (lim3 b k n, (3, .nilIface)) := by
  have hk : known (lim2 b k) 2 = true := rfl
  unfold pPower
  rw [hk, if_neg (by simp; omega), if_neg (by omega), if_neg (by omega), lim_len2, if_neg (by omega)]
  unfold pAdd
  rw [lkR_none (fun e he => by
    simp only [lim2, List.mem_cons, List.not_mem_nil, or_false] at he
    rcases he with rfl | rfl <;> simp [mkLetter, mkPower])]
  rfl

/-- the last call: a pair of the store's second rule and y -/
structure LimY (L : List ET) (y k m : Int) : Prop where
  k2 : known L 2 = true
  ky : known L y = true
  l2 : (eAt L 2).2.1.1 = k
  ly : (eAt L y).2.1.1 = m
  y0 : y = 0 → m = 0
  small : L.length ≤ 3
  kind : ∀ e ∈ L, e.1.1 ≠ 2
theorem LimY.pair {L : List ET} {y k m : Int} (h : LimY L y k m) :
    (k + m ≤ 1152921504606846976 → y ≠ 0 → pPair L 10 2 y = (L ++ [mkPair L 2 y], ((L.length : Int) + 1, .nilIface))) ∧
    (1152921504606846976 < k + m → y ≠ 0 → pPair L 10 2 y = (L, (0, errV 2))) ∧ (y = 0 → pPair L 10 2 y = (L, (2, .nilIface))) := by
  have hs := h.small
  refine ⟨fun hl hy => ?_, fun hl hy => ?_, fun hy => ?_⟩
  · unfold pPair
    rw [h.k2, h.ky, if_neg (by simp), if_neg (by decide), if_neg hy, h.l2, h.ly, if_neg (by omega)]
    unfold pAdd
    rw [lkR_none (fun e he => fun e' => h.kind e he (by rw [e']; rfl))]
    simp only
    rw [if_neg (by omega)]
  · unfold pPair
    rw [h.k2, h.ky, if_neg (by simp), if_neg (by decide), if_neg hy, h.l2, h.ly, if_pos hl]
  · unfold pPair
    rw [h.k2, h.ky, if_neg (by simp), if_neg (by decide), if_pos hy]

end Go.Proofs.Ytddhndabnbckmaa
