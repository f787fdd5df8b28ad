/- Texts that belong together, joined: GarA, GarB, GarC, GarD, GarE. No conditions. -/
import Derived.Test.YtbghccafigmnjaaGD
import Derived.Test.YtbghccafigmnjaaGE
import Derived.Test.YtbghccafigmnjaaGB
/- law12: the store that all statements begin with, roots, the specification's Reach and List; the walks of CollectReaches and CollectCloses. -/
set_option linter.unusedVariables false
set_option linter.unusedSimpArgs false
namespace Go.Proofs.Ytbghccafigmnjaa
open Go.Den

variable {w0 w : World} {Ω : List Ob} {most : Int} {T : List ET} {i j : Nat} {p : Addr} {m : yevergreenref12_Store.T}

theorem base_IDs_spec {a b : Sl} {xs ys : List (Ty.int .i64).T} (s : Sp w0 Ω w) (hv : ∀ w', Sp w0 Ω w' → View (.int .i64) w' a xs) (hv' : ∀ w', Sp w0 Ω w' → View (.int .i64) w' b ys) (hl : xs.length ≤ 9223372036854775806) {K : Bool → World → Prop} (h : ∀ w', Sp w0 Ω w' → K (decide (xs = ys)) w') : C_base_IDs a b K w := by
  apply S_base_IDs
  unfold F_base_IDs
  have la := (hv _ s).len
  have lb := (hv' _ s).len
  refine gd_ne (fun c => ?_) (fun c => ?_)
  · have : xs ≠ ys := fun e => c (by rw [la, lb, e])
    rw [decide_eq_false this] at h
    exact h _ s
  have hlen : xs.length = ys.length := by omega
  refine loop_by (fun x => x.1) xs.length (fun n _ w => xs.take n = ys.take n ∧ Sp w0 Ω w) rfl ⟨rfl, s⟩ ?_
  rintro n ⟨x, _⟩ w1 hn hx ⟨he, s⟩ _
  dsimp only at hx ⊢
  subst hx
  refine gd_dec (fun hlt => ?_) (fun hge => ?_)
  · have hn' : n < xs.length := by omega
    obtain ⟨x, hx⟩ : ∃ x, xs[n]? = some x := ⟨_, List.getElem?_eq_getElem hn'⟩
    obtain ⟨y, hy⟩ : ∃ y, ys[n]? = some y := ⟨_, List.getElem?_eq_getElem (by omega)⟩
    refine s.drawK fun w2 s => (hv _ s).idx rfl hx rfl fun q1 hq1 => ⟨x, hq1, (hv' _ s).idx rfl hy rfl fun q2 hq2 => ⟨y, hq2, gd_ne (fun c => ?_) (fun c => arith_i64 (by omega) (by omega) (loop_nx hn' ⟨?_, s⟩))⟩⟩
    · have : xs ≠ ys := fun e => c (by rw [e, hy] at hx; exact (Option.some.inj hx).symm)
      rw [decide_eq_false this] at h
      exact h _ s
    · rw [List.take_add_one, List.take_add_one, he, hx, hy, c]
  · have e : n = xs.length := by omega
    subst e
    rw [List.take_length, hlen, List.take_length] at he
    rw [decide_eq_true he] at h
    exact h _ s

/-! ### A list of marks -/
def MB (N : Nat) (inl : List Ty.bool.T) (q : Nat → Prop) : Prop := inl.length = N + 1 ∧ ∀ x : Nat, x ≤ N → ∃ b : Bool, inl[x]? = some b ∧ (b = true ↔ q x)
theorem MB.iff {N : Nat} {inl : List Ty.bool.T} {q r : Nat → Prop} (h : MB N inl q) (e : ∀ x, x ≤ N → (q x ↔ r x)) : MB N inl r :=
  ⟨h.1, fun x hx => by obtain ⟨b, h1, h2⟩ := h.2 x hx; exact ⟨b, h1, h2.trans (e x hx)⟩⟩
theorem MB.put {N k : Nat} {inl : List Ty.bool.T} {q : Nat → Prop} (h : MB N inl q) (v : Bool) (hk : k ≤ N) : MB N (inl.set k v) (fun x => if x = k then v = true else q x) := by
  refine ⟨by rw [List.length_set]; exact h.1, fun x hx => ?_⟩
  have hl := h.1
  rw [List.getElem?_set]
  by_cases c : k = x
  · subst c
    exact ⟨v, by rw [if_pos rfl, if_pos (by omega)], by dsimp only; rw [if_pos rfl]⟩
  · obtain ⟨b, h1, h2⟩ := h.2 x hx
    exact ⟨b, by rw [if_neg c]; exact h1, by dsimp only; rw [if_neg (Ne.symm c)]; exact h2⟩
def trues (inl : List Ty.bool.T) (n : Nat) : List Int := ((List.range n).filter fun i => inl.getD i false).map fun i : Nat => (i : Int)
theorem trues_succ (inl : List Ty.bool.T) (n : Nat) : trues inl (n + 1) = trues inl n ++ (if inl.getD n false = true then [(n : Int)] else []) := by
  unfold trues
  rw [List.range_succ, List.filter_append, List.map_append]
  congr 1
  cases c : inl.getD n false with
  | true => rw [List.filter_cons_of_pos (p := fun i => inl.getD i false) c]; simp
  | false => rw [List.filter_cons_of_neg (p := fun i => inl.getD i false) (by rw [c]; simp)]; simp
theorem trues_len (inl : List Ty.bool.T) (n : Nat) : (trues inl n).length ≤ n := by
  unfold trues
  rw [List.length_map]
  exact Nat.le_trans (List.length_filter_le _ _) (by simp)
theorem trues_sorted (inl : List Ty.bool.T) (n : Nat) : (trues inl n).Pairwise (fun x y => x < y) := by
  unfold trues
  rw [List.pairwise_map]
  exact (List.pairwise_lt_range.filter _).imp fun h => by omega
theorem MB.mem {N : Nat} {inl : List Ty.bool.T} {q : Nat → Prop} (h : MB N inl q) {x : Int} : x ∈ trues inl (N + 1) ↔ ∃ n : Nat, x = n ∧ n ≤ N ∧ q n := by
  unfold trues
  rw [List.mem_map]
  constructor
  · rintro ⟨n, hn, rfl⟩
    obtain ⟨h1, h2⟩ := List.mem_filter.1 hn
    have h3 := List.mem_range.1 h1
    obtain ⟨b, h4, h5⟩ := h.2 n (by omega)
    rw [List.getD_eq_getElem?_getD, h4] at h2
    exact ⟨n, rfl, by omega, h5.1 h2⟩
  · rintro ⟨n, rfl, hn, hq⟩
    obtain ⟨b, h4, h5⟩ := h.2 n hn
    refine ⟨n, List.mem_filter.2 ⟨List.mem_range.2 (by omega), ?_⟩, rfl⟩
    rw [List.getD_eq_getElem?_getD, h4]
    exact h5.2 hq
theorem ref12_List_spec {isl : Sl} {inl : List Ty.bool.T} (s : Sp w0 Ω w) (hv : ∀ w', Sp w0 Ω w' → View .bool w' isl inl) (hN : inl.length ≤ 1000000000) {K : Sl → World → Prop} (h : ∀ sl w', Sp w0 (own (.int .i64) sl (trues inl inl.length) :: Ω) w' → K sl w') : C_ref12_List isl K w := by
  apply S_ref12_List
  unfold F_ref12_List
  have hl := (hv _ s).len
  refine loop_by (fun x => x.2.1) inl.length (fun n x w => Sp w0 (own (.int .i64) x.1 (trues inl n) :: Ω) w) rfl (s.nil (.int .i64)) ?_
  rintro n ⟨out, x, _⟩ w1 hn hx s _
  dsimp only at hx s ⊢
  subst hx
  refine gd_dec (fun hlt => ?_) (fun hge => ?_)
  rotate_left
  · have e : n = inl.length := by omega
    subst e
    exact h _ _ s
  have hn' : n < inl.length := by omega
  obtain ⟨b, hb⟩ : ∃ b, inl[n]? = some b := ⟨_, List.getElem?_eq_getElem hn'⟩
  have hd : inl.getD n false = b := by rw [List.getD_eq_getElem?_getD, hb]; rfl
  have htl := trues_len inl n
  refine ⟨fun x w => Sp w0 (own (.int .i64) x.1 (trues inl (n + 1)) :: Ω) w, (hv _ s.pop).idx rfl hb rfl fun q hq => ⟨b, hq, ?_⟩, fun x w s _ => arith_i64 (by omega) (by omega) (loop_nx hn' s)⟩
  rw [trues_succ, hd]
  cases b with
  | true => exact gd_t rfl (s.allocK fun a7 w3 s => s.app 1 rfl ((s.lit (ty := .int .i64) 0 rfl [(n : Int)] 1 rfl rfl).view 0 rfl) (by simp only [List.length_cons, List.length_nil]; omega) fun s8 w4 s => s.pop)
  | false => exact gd_f rfl (by simpa using s)

/-! ### Reach of the specification -/
theorem ref12_Refs_spec {r : RT} (s : Sp w0 Ω w) {K : Sl → World → Prop} (h : ∀ sl w', Sp w0 (own (.int .i64) sl (refs r) :: Ω) w' → K sl w') : C_ref12_Refs r K w := by
  apply S_ref12_Refs
  unfold F_ref12_Refs
  refine s.allocK fun a1 w1 s => s.ldi (x := r.1) 0 0 rfl rfl (gd_eq (fun c => ?_) (fun c => s.ldi (x := r.1) 0 0 rfl rfl (gd_eq (fun c3 => ?_) (fun c3 => ?_))))
  · have : refs r = [r.2.2.1, r.2.2.2.1] := by unfold refs; rw [if_pos c]
    rw [this] at h
    exact s.ldi (x := r.2.2.1) 0 2 rfl rfl (s.ldi (x := r.2.2.2.1) 0 3 rfl rfl (s.allocK fun a5 w2 s => h _ _ ((s.lit (ty := .int .i64) 0 rfl [r.2.2.1, r.2.2.2.1] 2 rfl rfl).pick [0] 2 rfl (by decide))))
  · have : refs r = [r.2.2.1] := by unfold refs; rw [if_neg c, if_pos c3]
    rw [this] at h
    exact s.ldi (x := r.2.2.1) 0 2 rfl rfl (s.allocK fun a5 w2 s => h _ _ ((s.lit (ty := .int .i64) 0 rfl [r.2.2.1] 1 rfl rfl).pick [0] 2 rfl (by decide)))
  · have : refs r = [] := by unfold refs; rw [if_neg c, if_neg c3]
    rw [this] at h
    exact h _ _ (s.pop.nil (.int .i64))
def RchQ (T : List ET) (S : List Int) (x : Nat) : Prop := x ≠ 0 ∧ Rch T S x
theorem ref12_Reach_spec {rsl : Sl} {S : List Int} (g : Grow T) (s : Sp w0 Ω w) (j : Nat) (hj : Ω[j]? = some (rf2 m T)) (hl : T.length ≤ 1048576) (hv : ∀ w', Sp w0 Ω w' → View (.int .i64) w' rsl S) (hSN : S.length ≤ 1000000000) {K : Sl × Bool → World → Prop}
    (h : (∀ x ∈ S, 0 ≤ x ∧ x ≤ (T.length : Int)) → ∀ sl (inl : List Ty.bool.T) w', MB T.length inl (RchQ T S) → Sp w0 (own .bool sl inl :: Ω) w' → K (sl, true) w')
    (hbad : ¬ (∀ x ∈ S, 0 ≤ x ∧ x ≤ (T.length : Int)) → ∀ w', Sp w0 Ω w' → K (⟨none, 0, 0⟩, false) w') : C_ref12_Reach m rsl K w := by
  apply S_ref12_Reach
  unfold F_ref12_Reach
  have hlen := (Sp.rf2_ s j hj).1.len
  rw [rulesOf_len] at hlen
  have hSl := (hv _ s).len
  have hN : ((m.1.len : Int) + 1).toNat = T.length + 1 := by omega
  refine s.allocK fun a1 w1 s => s.lds (x := m.1) 0 0 rfl rfl (arith_i64 (by omega) (by omega) ⟨by omega, by omega, by omega, by omega, s.mkS .bool false (T.length + 1) (T.length + 1) (Nat.le_refl _) (fun a4 w2 s => ?_) rfl (by rw [hN]; rfl)⟩)
  rw [hN]
  refine loop_by (fun x => x.1) S.length (fun n _ w => (∀ x ∈ S.take n, 0 ≤ x ∧ x ≤ (T.length : Int)) ∧ ∃ inl, MB T.length inl (fun x => x ≠ 0 ∧ (x : Int) ∈ S.take n) ∧ Sp w0 (own .bool ⟨some ⟨a4, 0, none⟩, T.length + 1, T.length + 1⟩ inl :: cel a1 (cells yevergreenref12_Store m) :: Ω) w) rfl ⟨by simp, _, ⟨by simp, fun x hx => ⟨false, by rw [List.getElem?_replicate, if_pos (by omega)], by simp⟩⟩, s⟩ ?_
  clear s
  rintro n ⟨x, _⟩ w3 hn hx ⟨hkn, inl, hmb, s⟩ _
  dsimp only at hx ⊢
  subst hx
  refine gd_dec (fun hlt => ?_) (fun hge => ?_)
  · have hn' : n < S.length := by omega
    have hget := List.getElem?_eq_getElem hn'
    have htk : S.take (n + 1) = S.take n ++ [S[n]] := by rw [List.take_add_one, hget]; rfl
    have hmem := List.getElem_mem hn'
    generalize S[n] = z at hget htk hmem
    refine s.drawK fun w4 s => s.ld0 (ty := yevergreenref12_Store) (x := m) 1 rfl rfl ((hv _ (s.drop 2)).idx rfl hget rfl fun q hq => ⟨z, hq, ref12_Known_spec s (j + 2) hj fun w5 s => ?_⟩)
    by_cases hz : 0 ≤ z ∧ z ≤ (T.length : Int)
    · rw [show known T z = true from decide_eq_true hz]
      refine gd_f rfl (s.drawK fun w6 s => (hv _ (s.drop 2)).idx rfl hget rfl fun q2 hq2 => ⟨z, hq2, (hv _ (s.drop 2)).idx rfl hget rfl fun q3 hq3 => ⟨z, hq3, ?_⟩⟩)
      have hil := hmb.1
      refine s.setI 0 rfl (n := z.toNat) (y := decide (0 < z)) (by omega) (by omega) fun w7 s => arith_i64 (by omega) (by omega) (loop_nx hn' ⟨fun u hu => ?_, _, (hmb.put (decide (0 < z)) (show z.toNat ≤ T.length by omega)).iff fun x hx => ?_, s⟩)
      · rw [htk] at hu
        rcases List.mem_append.1 hu with h | h
        · exact hkn u h
        · simp at h; subst h; exact hz
      · rw [htk]
        simp only [List.mem_append, List.mem_singleton, decide_eq_true_eq]
        by_cases c : x = z.toNat
        · rw [if_pos c]; omega
        · rw [if_neg c]
          constructor
          · rintro ⟨h1, h2⟩; exact ⟨h1, Or.inl h2⟩
          · rintro ⟨h1, h2 | h2⟩
            · exact ⟨h1, h2⟩
            · omega
    · rw [show known T z = false from decide_eq_false hz]
      exact gd_t rfl (hbad (fun h => hz (h z hmem)) _ (s.drop 2))
  have en : n = S.length := by omega
  subst en
  rw [List.take_length] at hkn hmb
  have hS := hkn
  refine s.lds (x := m.1) 1 0 rfl rfl ⟨fun x w => ∃ (i : Nat) (inl : List Ty.bool.T), x.1 = (i : Int) ∧ i ≤ T.length ∧ MB T.length inl (fun x => x ≠ 0 ∧ ((x : Int) ∈ S ∨ ∃ y : Int, (i : Int) < y ∧ Rch T S y ∧ (x : Int) ∈ refs (eAt T y).1)) ∧
      Sp w0 (own .bool ⟨some ⟨a4, 0, none⟩, T.length + 1, T.length + 1⟩ inl :: cel a1 (cells yevergreenref12_Store m) :: Ω) w, fun x _ => x.1.toNat, ⟨T.length, inl, by dsimp only; omega, Nat.le_refl _, hmb.iff fun x hx => ?_, s⟩, ?_⟩
  · constructor
    · rintro ⟨h1, h2⟩; exact ⟨h1, Or.inl h2⟩
    · rintro ⟨h1, h2 | ⟨y, h3, h4, _⟩⟩
      · exact ⟨h1, h2⟩
      · have := (h4.bound g hS).2; omega
  clear hmb s
  rintro ⟨x, _⟩ w5 ⟨i, inl, hx, hi, hmb, s⟩ _
  dsimp only at hx ⊢
  subst hx
  have hil := hmb.1
  refine gd_dec (fun hp => ?_) (fun hp => ?_)
  · have hi1 : 1 ≤ i := by omega
    obtain ⟨b, hb, hbi⟩ := hmb.2 i hi
    have hbr : b = true ↔ Rch T S i := by
      rw [hbi, Rch.iff g hS (by omega)]
      constructor
      · rintro ⟨_, h⟩; exact h
      · intro h; exact ⟨by omega, h⟩
    have hget := rulesOf_get (T := T) (n := i - 1) (by omega)
    rw [show ((i - 1 : Nat) : Int) + 1 = i by omega] at hget
    refine ⟨fun _ w => ∃ inl' : List Ty.bool.T, MB T.length inl' (fun x => x ≠ 0 ∧ ((x : Int) ∈ S ∨ ∃ y : Int, (i : Int) - 1 < y ∧ Rch T S y ∧ (x : Int) ∈ refs (eAt T y).1)) ∧
      Sp w0 (own .bool ⟨some ⟨a4, 0, none⟩, T.length + 1, T.length + 1⟩ inl' :: cel a1 (cells yevergreenref12_Store m) :: Ω) w, ?_, ?_⟩
    · refine s.lds (x := m.1) 1 0 rfl rfl (arith_i64 (by omega) (by omega) ((Sp.rf2_ s (j + 2) hj).1.idx (n := i - 1) (by omega) hget rfl fun q hq => ⟨_, hq, ref12_Refs_spec s fun rl w6 s => ?_⟩))
      have hrl := refs_len (eAt T (i : Int)).1
      refine loop_by (fun x => x.1) (refs (eAt T (i : Int)).1).length (fun n _ w => (n = 0 ∨ b = true) ∧ ∃ inl' : List Ty.bool.T, MB T.length inl' (fun x => x ≠ 0 ∧ (((x : Int) ∈ S ∨ ∃ y : Int, (i : Int) < y ∧ Rch T S y ∧ (x : Int) ∈ refs (eAt T y).1) ∨ (x : Int) ∈ (refs (eAt T (i : Int)).1).take n)) ∧ inl'[i]? = some b ∧
        Sp w0 (own (.int .i64) rl (refs (eAt T (i : Int)).1) :: own .bool ⟨some ⟨a4, 0, none⟩, T.length + 1, T.length + 1⟩ inl' :: cel a1 (cells yevergreenref12_Store m) :: Ω) w) rfl ⟨Or.inl rfl, inl, hmb.iff fun x hx => by simp, hb, s⟩ ?_
      clear s
      rintro k ⟨x, _⟩ w7 hk hx ⟨hkb, inl', hmb', hb', s⟩ _
      dsimp only at hx ⊢
      subst hx
      have hil' := hmb'.1
      have hrlen := (s.view 0 rfl).len
      have done : (k = (refs (eAt T (i : Int)).1).length ∨ b = false) → ∃ inl' : List Ty.bool.T, MB T.length inl' (fun x => x ≠ 0 ∧ ((x : Int) ∈ S ∨ ∃ y : Int, (i : Int) - 1 < y ∧ Rch T S y ∧ (x : Int) ∈ refs (eAt T y).1)) ∧
          Sp w0 (own .bool ⟨some ⟨a4, 0, none⟩, T.length + 1, T.length + 1⟩ inl' :: cel a1 (cells yevergreenref12_Store m) :: Ω) w7 := by
        intro hend
        refine ⟨inl', hmb'.iff fun x hx => ?_, s.pop⟩
        constructor
        · rintro ⟨h1, (h2 | ⟨y, h3, h4, h5⟩) | h2⟩
          · exact ⟨h1, Or.inl h2⟩
          · exact ⟨h1, Or.inr ⟨y, by omega, h4, h5⟩⟩
          · have hbt : b = true := by
              rcases hkb with rfl | h
              · simp at h2
              · exact h
            exact ⟨h1, Or.inr ⟨i, by omega, hbr.1 hbt, List.mem_of_mem_take h2⟩⟩
        · rintro ⟨h1, h2 | ⟨y, h3, h4, h5⟩⟩
          · exact ⟨h1, Or.inl (Or.inl h2)⟩
          · by_cases hy : y = i
            · subst hy
              rcases hend with hend | hend
              · refine ⟨h1, Or.inr ?_⟩
                rw [hend, List.take_length]; exact h5
              · rw [hbr.2 h4] at hend; cases hend
            · exact ⟨h1, Or.inl (Or.inr ⟨y, by omega, h4, h5⟩)⟩
      refine JoinP.inl (gd_dec (fun hlt => ?_) (fun hge => done (Or.inl (by omega))))
      have hk' : k < (refs (eAt T (i : Int)).1).length := by omega
      refine (s.view 1 rfl).idx (n := i) rfl hb' rfl fun q2 hq2 => ⟨b, hq2, gd_mk (fun e => ?_) (fun e => done (Or.inr e))⟩
      intro _
      obtain ⟨z, hz⟩ : ∃ z : Int, (refs (eAt T (i : Int)).1)[k]? = some z := ⟨_, List.getElem?_eq_getElem hk'⟩
      have hzb := refs_in g (y := (i : Int)) (by omega) (by omega) (List.mem_of_getElem? hz)
      have htk : (refs (eAt T (i : Int)).1).take (k + 1) = (refs (eAt T (i : Int)).1).take k ++ [z] := by rw [List.take_add_one, hz]; rfl
      refine (s.view 0 rfl).idx rfl hz rfl fun q3 hq3 => ⟨z, hq3, s.setI 1 rfl (n := z.toNat) (y := true) (by omega) (by omega) fun w8 s => arith_i64 (by omega) (by omega) (loop_nx hk' ⟨Or.inr e, _, (hmb'.put true (show z.toNat ≤ T.length by omega)).iff fun x hx => ?_, ?_, s⟩)⟩
      · rw [htk]
        simp only [List.mem_append, List.mem_singleton]
        by_cases c : x = z.toNat
        · rw [if_pos c]
          refine ⟨fun _ => ⟨by omega, Or.inr (Or.inr (by omega))⟩, fun _ => by first | trivial | rfl⟩
        · rw [if_neg c]
          constructor
          · rintro ⟨h1, h2 | h2⟩
            · exact ⟨h1, Or.inl h2⟩
            · exact ⟨h1, Or.inr (Or.inl h2)⟩
          · rintro ⟨h1, h2 | h2 | h2⟩
            · exact ⟨h1, Or.inl h2⟩
            · exact ⟨h1, Or.inr h2⟩
            · omega
      · rw [List.getElem?_set, if_neg (by omega)]; exact hb'
    · rintro _ w6 ⟨inl', hmb', s⟩ _
      refine arith_i64 (by omega) (by omega) ⟨⟨i - 1, inl', by omega, by omega, ?_, s⟩, by omega⟩
      rw [show ((i - 1 : Nat) : Int) = (i : Int) - 1 by omega]
      exact hmb'
  · have hi0 : i = 0 := by omega
    subst hi0
    refine h hS _ _ _ (hmb.iff fun x hx => ?_) (s.pick [0] 2 rfl (by decide))
    unfold RchQ
    by_cases c : x = 0
    · subst c; simp
    · rw [Rch.iff g hS (by omega)]
      constructor
      · rintro ⟨h1, h2 | ⟨y, h3, h4, h5⟩⟩
        · exact ⟨h1, Or.inl h2⟩
        · have b := h4.bound g hS
          exact ⟨h1, Or.inr ⟨y, (refs_in g b.1 b.2 h5).2, h4, h5⟩⟩
      · rintro ⟨h1, h2 | ⟨y, h3, h4, h5⟩⟩
        · exact ⟨h1, Or.inl h2⟩
        · exact ⟨h1, Or.inr ⟨y, by have := (h4.bound g hS).1; omega, h4, h5⟩⟩
theorem trues_rlist {S : List Int} {inl : List Ty.bool.T} (g : Grow T) (hS : ∀ x ∈ S, 0 ≤ x ∧ x ≤ (T.length : Int)) (hm : MB T.length inl (RchQ T S)) : trues inl inl.length = rlist T S := by
  rw [hm.1]
  refine sorted_unique (trues_sorted _ _) rlist_sorted fun x => ?_
  rw [hm.mem, rlist_mem g hS]
  constructor
  · rintro ⟨n, rfl, _, h⟩; exact h.2
  · intro h
    have b := h.bound g hS
    refine ⟨x.toNat, by omega, by omega, by omega, ?_⟩
    rwa [show ((x.toNat : Nat) : Int) = x by omega]

end Go.Proofs.Ytbghccafigmnjaa

/- law12: begun, roots; the walks of CollectReaches and CollectCloses. -/
set_option linter.unusedVariables false
set_option linter.unusedSimpArgs false
namespace Go.Proofs.Ytbghccafigmnjaa
open Go.Den

variable {w0 w : World} {Ω : List Ob} {most : Int} {T : List ET} {i j : Nat} {p : Addr} {m : yevergreenref12_Store.T}

abbrev Known_ (T : List ET) (S : List Int) : Prop := ∀ x ∈ S, 0 ≤ x ∧ x ≤ (T.length : Int)
theorem is_err {n : Int} (hn : n ≠ 0) {K : Bool → World → Prop} (h : K true w) : C_base_Is (errV n) n K w :=
  base_Is_err hn (by rw [decide_eq_true rfl]; exact h)
theorem collect_Reach_both {rsl : Sl} {S : List Int} (s : Sp w0 Ω w) (i : Nat) (hi : Ω[i]? = some (sto p most T)) (hv : ∀ w', Sp w0 Ω w' → View (.int .i64) w' rsl S) (hSN : S.length ≤ 1000000000) {K : Sl × Value → World → Prop}
    (h : ∀ (r : Sl × Value) (L : List (Ty.int .i64).T) w', (Known_ T S ∧ r.2 = .nilIface ∧ L = rlist T S) ∨ (¬ Known_ T S ∧ r = (⟨none, 0, 0⟩, errV 1) ∧ L = []) → Sp w0 (own (.int .i64) r.1 L :: Ω) w' → K r w') : C_collect_Reach (some p) rsl K w :=
  collect_Reach_sp s i hi hv hSN (fun hk sl w' s => h (sl, .nilIface) _ w' (Or.inl ⟨hk, rfl, rfl⟩) s) (fun hn w' s => h (⟨none, 0, 0⟩, errV 1) [] w' (Or.inr ⟨hn, rfl, rfl⟩) (s.nil (.int .i64)))

/-! ### The store that all begin with -/
theorem first_a : pLetter [] 1 97 = ([mkLetter 97], ((1 : Int), Value.nilIface)) := by kernel_rfl
theorem grow_a : Grow [mkLetter 97] := Grow.letter (L := []) (b := 97) .nil (by decide) (by decide) rfl
theorem rlist_a : rlist [mkLetter 97] [1] = [1] := by
  have hS : ∀ x ∈ [(1 : Int)], 0 ≤ x ∧ x ≤ (([mkLetter 97] : List ET).length : Int) := fun x hx => by simp at hx; subst hx; decide
  refine sorted_unique rlist_sorted (by simp) fun x => ?_
  rw [rlist_mem grow_a hS]
  constructor
  · intro h
    have := h.bound grow_a hS
    have h1 : (([mkLetter 97] : List ET).length : Int) = 1 := rfl
    simp; omega
  · intro h
    simp at h
    subst h
    exact .root (by simp) (by decide)
theorem law12_begun_spec {sl : Sl} {ops : List MakeT} (s : Sp w0 Ω w) (hv : View yevergreenref12_Make w0 sl ops) (ho : ∀ o ∈ ops, MakeOK o) (hN : ops.length ≤ 300) {K : Option Addr × Sl × Bool → World → Prop}
    (h : ∀ p rs w', Sp w0 (own (.int .i64) rs (bld 1000 ops).2 :: sto p 1000 (bld 1000 ops).1 :: Ω) w' → K (some p, rs, true) w') : C_law12_begun sl K w := by
  apply S_law12_begun
  unfold F_law12_begun
  refine intern_New_sp s fun p w1 s => gd_f rfl ?_
  have s : Sp w0 (sto p 1000 [] :: Ω) w1 := s
  refine law12_Build_spec s 0 rfl hv ho (by omega) (by omega) fun rs w2 s => gd_f rfl ?_
  have s : Sp w0 (own (.int .i64) rs (bld 1000 ops).2 :: sto p 1000 (bld 1000 ops).1 :: Ω) w2 := s
  refine intern_New_sp s fun q w3 s => ?_
  have s : Sp w0 (sto q 1 [] :: own (.int .i64) rs (bld 1000 ops).2 :: sto p 1000 (bld 1000 ops).1 :: Ω) w3 := s
  refine intern_Letter_sp s 0 rfl (by decide) fun w4 s => ?_
  rw [first_a] at s ⊢
  have s : Sp w0 (sto q 1 [mkLetter 97] :: own (.int .i64) rs (bld 1000 ops).2 :: sto p 1000 (bld 1000 ops).1 :: Ω) w4 := s
  refine s.allocK fun a5 w5 s => collect_Reach_sp s 1 rfl (fun w' s => (s.lit (ty := .int .i64) 0 rfl [(1 : Int)] 1 rfl rfl).view 0 rfl) (by decide) (fun _ l w6 s => ?_) (fun hn => absurd (fun x hx => by simp at hx; subst hx; decide) hn)
  rw [rlist_a] at s
  have hl := (s.view 0 rfl).len
  refine s.drawK fun w7 s => nilIfc_nil (gd_t rfl (nilIfc_nil (gd_t rfl (gd_t (by rw [hl]; rfl) ((s.view 0 rfl).idx (n := 0) rfl rfl rfl fun q hq => ⟨1, hq, ?_⟩)))))
  exact h p rs _ (s.pick [3, 4] 5 rfl (by decide))

/-! ### Roots -/
def rootP (T : List ET) (res : List Int) (n : Int) : Int := if n = -4 then -1 else if n = -5 then (T.length : Int) + 1 else rsAt res n
def rootL (T : List ET) (res : List Int) (picks : List Int) : List (Ty.int .i64).T := picks.map (rootP T res)
theorem rootL_len (T : List ET) (res picks : List Int) : (rootL T res picks).length = picks.length := List.length_map _
theorem law12_roots_spec {rs psl : Sl} {res : List (Ty.int .i64).T} {picks : List Int} (s : Sp w0 Ω w) (i : Nat) (hi : Ω[i]? = some (sto p most T)) (k : Nat) (hk : Ω[k]? = some (own (.int .i64) rs res)) (hr : 1 ≤ res.length) (hrN : res.length ≤ 1000000) (hv : ∀ w', Sp w0 Ω w' → View (.int .i64) w' psl picks) (hN : picks.length ≤ 1000000000) {K : Sl → World → Prop}
    (h : ∀ sl w', Sp w0 (own (.int .i64) sl (rootL T res picks) :: Ω) w' → K sl w') : C_law12_roots (some p) rs psl K w := by
  apply S_law12_roots
  unfold F_law12_roots
  obtain ⟨_, _, _, hb0, hb1, hb2, hg⟩ := Sp.entry s i hi
  have hl := (hv _ s).len
  have hrl := (s.view k hk).len
  refine loop_by (fun x => x.2.1) picks.length (fun n x w => Sp w0 (own (.int .i64) x.1 (rootL T res (picks.take n)) :: Ω) w) rfl (s.nil (.int .i64)) ?_
  rintro n ⟨out, x, _⟩ w1 hn hx s _
  dsimp only at hx s ⊢
  subst hx
  refine gd_dec (fun hlt => ?_) (fun hge => ?_)
  rotate_left
  · have e : n = picks.length := by omega
    subst e
    rw [List.take_length] at s
    exact h _ _ s
  have hn' : n < picks.length := by omega
  have hget := List.getElem?_eq_getElem hn'
  have htk : rootL T res (picks.take (n + 1)) = rootL T res (picks.take n) ++ [rootP T res picks[n]] := by
    unfold rootL
    rw [List.take_add_one, hget, Option.toList_some, List.map_append]; rfl
  generalize picks[n] = z at hget htk
  have hol := rootL_len T res (picks.take n)
  rw [List.length_take] at hol
  have put : ∀ (y : Int) w, y = rootP T res z → Sp w0 (own (.int .i64) out (rootL T res (picks.take n)) :: Ω) w → Go.Den.allocK (.cells #[.int .i64 y] t_api_ID) w fun a w' => appK t_api_ID 1 8 #[.int .i64 (0 : Int)] out.a out.len out.cap (.slice (some a) 1 1) 1 w' fun s' w'' => Sp w0 (own (.int .i64) s' (rootL T res (picks.take (n + 1))) :: Ω) w'' := by
    intro y w hy s
    subst hy
    rw [htk]
    exact s.allocK fun a w3 s => s.app 1 rfl ((s.lit (ty := .int .i64) 0 rfl [rootP T res z] 1 rfl rfl).view 0 rfl) (by simp only [List.length_cons, List.length_nil]; omega) fun s8 w4 s => s.pop
  refine ⟨fun x w => Sp w0 (own (.int .i64) x.1 (rootL T res (picks.take (n + 1))) :: Ω) w, (hv _ s.pop).idx rfl hget rfl fun q hq => ⟨z, hq, gd_eq (fun c => ?_) (fun c => gd_eq (fun c2 => ?_) (fun c2 => ?_))⟩, fun x w s _ => arith_i64 (by omega) (by omega) (loop_nx hn' s)⟩
  · exact put _ _ (by unfold rootP; rw [if_pos c]) s
  · exact intern_Len_sp s (i + 1) hi (arith_i64 (by omega) (by omega) (put _ _ (by unfold rootP; rw [if_neg c, if_pos c2]) s))
  · obtain ⟨kk, e1, hg1, hm1⟩ := rsAt_get hr z
    refine ref12_Pick_eq (by omega) (by omega) ?_
    rw [show ((rs.len : Nat) : Int) = (res.length : Int) by omega]
    exact (s.view (k + 1) hk).idx e1 hg1 rfl fun q1 hq1 => ⟨_, hq1, put _ _ (by unfold rootP; rw [if_neg c, if_neg c2]) s⟩

theorem law12_CollectReaches_spec {sl psl : Sl} {ops : List MakeT} {picks : List Int} (hv : View yevergreenref12_Make w0 sl ops) (ho : ∀ o ∈ ops, MakeOK o) (hvp : View (.int .i64) w0 psl picks) {K : Bool → World → Prop} (h : ∀ w', Ext w0 w' → K true w') : C_law12_CollectReaches sl psl K w0 := by
  apply S_law12_CollectReaches
  unfold F_law12_CollectReaches
  have hlen := hv.len
  have hpl := hvp.len
  refine JoinP.inl (gd_dec (fun c => fun _ => gd_t rfl (h _ (.refl _ _))) (fun c => fun _ => gd_dec (fun c2 => h _ (.refl _ _)) (fun c2 => ?_)))
  refine law12_begun_spec (Sp.init w0) hv ho (by omega) fun p rs w1 s => gd_f rfl ?_
  refine ref12_Build_spec (most := 1000) s hv ho (by omega) (by omega) fun m rs' w2 s => s.allocK fun a5 w3 s => s.st0 0 rfl rfl rfl fun w4 s => ?_
  have hb := bld_ok (most := 1000) (by decide) ho
  have s : Sp w0 [cel a5 (cells yevergreenref12_Store m), own (.int .i64) rs' (bld 1000 ops).2, rf2 m (bld 1000 ops).1, own (.int .i64) rs (bld 1000 ops).2, sto p 1000 (bld 1000 ops).1] w4 := s
  generalize (bld 1000 ops).1 = T at *
  generalize (bld 1000 ops).2 = res at *
  have hT := hb.len
  have hg := hb.grow
  have hc := hb.cnt
  refine law12_roots_spec s 4 rfl 3 rfl (by omega) (by omega) (fun w' s => hvp.ext s.ext) (by omega) fun rsl w5 s => ?_
  have hrl := rootL_len T res picks
  generalize rootL T res picks = S at *
  refine collect_Reach_sp s 5 rfl (fun w' s => s.view 0 rfl) (by omega) (fun hS l w6 s => ?_) (fun hS w6 s => ?_)
  · refine s.ld0 (ty := yevergreenref12_Store) (x := m) 2 rfl rfl (ref12_Reach_spec hg s 4 rfl (by omega) (fun w' s => s.view 1 rfl) (by omega) (fun _ isl inl w7 hmb s => ?_) (fun hn => absurd hS hn))
    have hil := hmb.1
    refine gd_f rfl (nilIfc_nil (gd_t rfl (ref12_List_spec s (fun w' s => s.view 0 rfl) (by omega) fun tsl w8 s => ?_)))
    rw [trues_rlist hg hS hmb] at s
    have hrl := rlist_len T S
    refine base_IDs_spec s (fun w' s => s.view 2 rfl) (fun w' s => s.view 0 rfl) (by omega) fun w9 s => ?_
    rw [decide_eq_true rfl]
    exact h _ s.ext
  · refine s.ld0 (ty := yevergreenref12_Store) (x := m) 1 rfl rfl (ref12_Reach_spec hg s 3 rfl (by omega) (fun w' s => s.view 0 rfl) (by omega) (fun hk => absurd hk hS) (fun _ w7 s => ?_))
    exact gd_t rfl (gd_t rfl (is_err (by decide) (h _ s.ext)))

/-! ### Closure -/
theorem rlist_rlist {S : List Int} (g : Grow T) (hS : Known_ T S) : rlist T (rlist T S) = rlist T S ∧ Known_ T (rlist T S) := by
  have hk : Known_ T (rlist T S) := fun x hx => by
    have := (mem_rlist.1 hx).1
    omega
  refine ⟨sorted_unique rlist_sorted rlist_sorted fun x => ?_, hk⟩
  rw [rlist_mem g hk, rlist_mem g hS]
  constructor
  · intro h
    induction h with
    | root h1 _ => exact (rlist_mem g hS).1 h1
    | ref _ h2 ih => exact .ref ih h2
  · intro h
    exact .root ((rlist_mem g hS).2 h) (by have := (h.bound g hS).1; omega)
theorem rlist_union {S S' : List Int} (g : Grow T) (hS : Known_ T S) (hS' : Known_ T S') : Known_ T (S ++ S') ∧ ∀ x, x ∈ rlist T (S ++ S') ↔ x ∈ rlist T S ++ rlist T S' := by
  have hk : Known_ T (S ++ S') := fun x hx => by
    rcases List.mem_append.1 hx with h | h
    · exact hS x h
    · exact hS' x h
  refine ⟨hk, fun x => ?_⟩
  rw [rlist_mem g hk, List.mem_append, rlist_mem g hS, rlist_mem g hS']
  constructor
  · intro h
    induction h with
    | root h1 h2 =>
      rcases List.mem_append.1 h1 with h | h
      · exact Or.inl (.root h h2)
      · exact Or.inr (.root h h2)
    | ref _ h2 ih =>
      rcases ih with ih | ih
      · exact Or.inl (.ref ih h2)
      · exact Or.inr (.ref ih h2)
  · rintro (h | h)
    · exact h.mono fun y hy => List.mem_append_left _ hy
    · exact h.mono fun y hy => List.mem_append_right _ hy
theorem same_len {L M : List Int} (hL : L.Nodup) (hM : M.Nodup) (h : ∀ x, x ∈ L ↔ x ∈ M) : L.length = M.length := by
  have := sorted_unique (srt_lt hL) (srt_lt hM) fun x => by rw [(srt_perm L).mem_iff, (srt_perm M).mem_iff]; exact h x
  have := congrArg List.length this
  rwa [srt_len, srt_len] at this
theorem mapIB2 : P.underlying t_map_api_ID_bool = some (.map t_api_ID (mapElem t_map_api_ID_bool)) := mapIB
theorem law12_CollectCloses_spec {sl p1 p2 : Sl} {ops : List MakeT} {one two : List Int} (hv : View yevergreenref12_Make w0 sl ops) (ho : ∀ o ∈ ops, MakeOK o) (hv1 : View (.int .i64) w0 p1 one) (hv2 : View (.int .i64) w0 p2 two) (hc1 : p1.len ≤ 1048576) (hc2 : p2.len ≤ 1048576) {K : Bool → World → Prop} (h : ∀ w', Ext w0 w' → K true w') : C_law12_CollectCloses sl p1 p2 K w0 := by
  apply S_law12_CollectCloses
  unfold F_law12_CollectCloses
  have hlen := hv.len
  have hl1 := hv1.len
  have hl2 := hv2.len
  refine JoinP.inl (gd_dec (fun c => fun _ => gd_t rfl (h _ (.refl _ _))) (fun c => arith_i64 (by omega) (by omega) fun _ => gd_dec (fun c2 => h _ (.refl _ _)) (fun c2 => ?_)))
  refine law12_begun_spec (Sp.init w0) hv ho (by omega) fun p rs w1 s => gd_f rfl ?_
  have hb := bld_ok (most := 1000) (by decide) ho
  generalize (bld 1000 ops).1 = T at *
  generalize (bld 1000 ops).2 = res at *
  have hT := hb.len
  have hg := hb.grow
  have hc := hb.cnt
  refine law12_roots_spec s 1 rfl 0 rfl (by omega) (by omega) (fun w' s => hv1.ext s.ext) (by omega) fun asl w5 s => ?_
  refine law12_roots_spec s 2 rfl 1 rfl (by omega) (by omega) (fun w' s => hv2.ext s.ext) (by omega) fun bsl w6 s => ?_
  have ha := rootL_len T res one
  have hbl := rootL_len T res two
  generalize rootL T res one = A at *
  generalize rootL T res two = B at *
  refine collect_Reach_both s 3 rfl (fun w' s => s.view 1 rfl) (by omega) fun rx X w7 hX s => ?_
  refine collect_Reach_both s 4 rfl (fun w' s => s.view 1 rfl) (by omega) fun ry Y w8 hY s => ?_
  refine s.allocK fun a9 w9 s => (s.lit (ty := .int .i64) 0 rfl [] 0 rfl rfl).app 0 rfl (s.view 4 rfl) (by simp only [List.length_nil]; omega) fun s10 w10 s => s.app 0 rfl (s.view 3 rfl) (by simp only [List.nil_append]; omega) fun s11 w11 s => ?_
  refine collect_Reach_both (S := A ++ B) s 6 rfl (fun w' s => s.view 0 rfl) (by rw [List.length_append]; omega) fun rz Z w12 hZ s => ?_
  obtain ⟨slx, ex⟩ := rx
  obtain ⟨sly, ey⟩ := ry
  obtain ⟨slz, ez⟩ := rz
  by_cases hk : Known_ T A ∧ Known_ T B
  rotate_left
  · have hkz : ¬ Known_ T (A ++ B) := fun hk' => hk ⟨fun x hx => hk' x (List.mem_append_left _ hx), fun x hx => hk' x (List.mem_append_right _ hx)⟩
    have ez' : ez = errV 1 := by
      rcases hZ with ⟨h1, _⟩ | ⟨_, h1, _⟩
      · exact absurd h1 hkz
      · cases h1; rfl
    subst ez'
    rcases hX with ⟨hA, h1, _⟩ | ⟨_, h1, _⟩
    · dsimp only at h1
      subst h1
      rcases hY with ⟨hB, _, _⟩ | ⟨_, h1, _⟩
      · exact absurd ⟨hA, hB⟩ hk
      · cases h1
        refine JoinP.inl (nilIfc_nil (gd_f rfl (nilIfc_err ?_)))
        intro _
        exact gd_t rfl (nilIfc_err (h _ s.ext))
    · cases h1
      refine JoinP.inl (nilIfc_err (gd_t rfl ?_))
      intro _
      exact gd_t rfl (nilIfc_err (h _ s.ext))
  obtain ⟨hA, hB⟩ := hk
  obtain ⟨hAB, hmem⟩ := rlist_union hg hA hB
  rcases hX with ⟨_, h1, rfl⟩ | ⟨h1, _⟩
  rotate_left
  · exact absurd hA h1
  rcases hY with ⟨_, h2, rfl⟩ | ⟨h1, _⟩
  rotate_left
  · exact absurd hB h1
  rcases hZ with ⟨_, h3, rfl⟩ | ⟨h1, _⟩
  rotate_left
  · exact absurd hAB h1
  dsimp only at h1 h2 h3 s ⊢
  have sz := s
  subst h1 h2 h3
  have s := sz
  clear sz
  have lX := rlist_len T A
  have lY := rlist_len T B
  have lZ := rlist_len T (A ++ B)
  obtain ⟨eX, kX⟩ := rlist_rlist hg hA
  refine JoinP.inl (nilIfc_nil (gd_f rfl (nilIfc_nil ?_)))
  intro _
  refine gd_f rfl ?_
  refine collect_Reach_sp (p := p) (T := T) (most := 1000) (rsl := slx) (S := rlist T A) s 7 rfl (fun w' s => s.view 3 rfl) (by omega) (fun _ slw w13 s => ?_) (fun hn => absurd kX hn)
  rw [eX] at s
  refine JoinP.inl (nilIfc_nil (gd_f rfl (nilIfc_nil (gd_f rfl (base_IDs_spec s (fun w' s => s.view 0 rfl) (fun w' s => s.view 4 rfl) (by omega) fun w14 s => ?_)))))
  rw [decide_eq_true rfl]
  intro _
  refine gd_f rfl (s.allocC .bool fun r w15 s => s.allocK fun a25 w16 s => (s.lit (ty := .int .i64) 0 rfl [] 0 rfl rfl).app 0 rfl (s.view 6 rfl) (by simp only [List.length_nil]; omega) fun s26 w17 s => s.app 0 rfl (s.view 5 rfl) (by simp only [List.nil_append]; omega) fun s27 w18 s => ?_)
  have s : Sp w0 [own (.int .i64) s27 (rlist T A ++ rlist T B), mc .bool r [], own (.int .i64) slz (rlist T (A ++ B)), own (.int .i64) asl A] w18 := s.pick [0, 1, 3, 8] 11 rfl (by decide)
  have hxyl := (s.view 0 rfl).len
  have hzl := (s.view 2 rfl).len
  have hasl := (s.view 3 rfl).len
  refine loop_by (fun x => x.1) (rlist T A ++ rlist T B).length (fun n _ w => ∃ mm : List (Int × Ty.bool.T), (∀ y : Int, at? mm y = if y ∈ (rlist T A ++ rlist T B).take n then some true else none) ∧ Sp w0 [own (.int .i64) s27 (rlist T A ++ rlist T B), mc .bool r mm, own (.int .i64) slz (rlist T (A ++ B)), own (.int .i64) asl A] w) rfl ⟨[], fun y => by simp [at?], s⟩ ?_
  clear s
  rintro n ⟨x, _⟩ w19 hn hx ⟨mm, hmm, s⟩ _
  dsimp only at hx ⊢
  subst hx
  have hxl : (rlist T A ++ rlist T B).length ≤ 2000 := by rw [List.length_append]; omega
  refine gd_dec (fun hlt => ?_) (fun hge => ?_)
  · have hn' : n < (rlist T A ++ rlist T B).length := by omega
    obtain ⟨y, hy⟩ : ∃ y, (rlist T A ++ rlist T B)[n]? = some y := ⟨_, List.getElem?_eq_getElem hn'⟩
    refine (s.view 0 rfl).idx rfl hy rfl fun q hq => ⟨y, hq, s.upC (vt := .bool) 1 rfl (by decide) mapIB eqID y true fun w20 s => arith_i64 (by omega) (by omega) (loop_nx hn' ⟨_, fun z => ?_, s⟩)⟩
    rw [at_mupd, hmm, List.take_add_one, hy]
    by_cases c : y = z
    · rw [if_pos c, if_pos (by simp [c])]
    · rw [if_neg c]
      by_cases c2 : z ∈ (rlist T A ++ rlist T B).take n
      · rw [if_pos c2, if_pos (by simp; exact Or.inl c2)]
      · rw [if_neg c2, if_neg (by simp; exact ⟨c2, Ne.symm c⟩)]
  have en : n = (rlist T A ++ rlist T B).length := by omega
  subst en
  rw [List.take_length] at hmm
  have hget : ∀ (y : Int) w, Sp w0 [own (.int .i64) s27 (rlist T A ++ rlist T B), mc .bool r mm, own (.int .i64) slz (rlist T (A ++ B)), own (.int .i64) asl A] w → y ∈ rlist T A ++ rlist T B → Lk1 P t_map_api_ID_bool .bool (.map (some r)) (.int .i64 y) true w := fun y w s hy => by
    have := (s.mc_ 1 rfl).get (by decide) mapIB eqID zeroIB y
    rwa [hmm, if_pos hy] at this
  refine loop_by (fun x => x.1) A.length (fun n _ w => Sp w0 [own (.int .i64) s27 (rlist T A ++ rlist T B), mc .bool r mm, own (.int .i64) slz (rlist T (A ++ B)), own (.int .i64) asl A] w) rfl s ?_
  clear s
  rintro n ⟨x, _⟩ w21 hn hx s _
  dsimp only at hx ⊢
  subst hx
  refine gd_dec (fun hlt => ?_) (fun hge => ?_)
  · have hn' : n < A.length := by omega
    obtain ⟨y, hy⟩ : ∃ y, A[n]? = some y := ⟨_, List.getElem?_eq_getElem hn'⟩
    refine (s.view 3 rfl).idx rfl hy rfl fun q hq => ⟨y, hq, JoinP.inl (gd_ne (fun c => ?_) (fun c => ?_))⟩
    · refine ⟨true, hget y _ s (List.mem_append_left _ ((rlist_mem hg hA).2 (.root (List.mem_of_getElem? hy) c))), ?_⟩
      intro _
      exact gd_f rfl (arith_i64 (by omega) (by omega) (loop_nx hn' s))
    · intro _
      exact gd_f rfl (arith_i64 (by omega) (by omega) (loop_nx hn' s))
  refine loop_by (fun x => x.1) (rlist T (A ++ B)).length (fun n _ w => Sp w0 [own (.int .i64) s27 (rlist T A ++ rlist T B), mc .bool r mm, own (.int .i64) slz (rlist T (A ++ B)), own (.int .i64) asl A] w) rfl s ?_
  clear s
  rintro n ⟨x, _⟩ w23 hn hx s _
  dsimp only at hx ⊢
  subst hx
  refine gd_dec (fun hlt => ?_) (fun hge => ?_)
  · have hn' : n < (rlist T (A ++ B)).length := by omega
    obtain ⟨y, hy⟩ : ∃ y, (rlist T (A ++ B))[n]? = some y := ⟨_, List.getElem?_eq_getElem hn'⟩
    exact (s.view 2 rfl).idx rfl hy rfl fun q hq => ⟨y, hq, true, hget y _ s ((hmem y).1 (List.mem_of_getElem? hy)), gd_f rfl (arith_i64 (by omega) (by omega) (loop_nx hn' s))⟩
  · refine ⟨_, (s.mc_ 1 rfl).len, ?_⟩
    have hnd := (s.mc_ 1 rfl).nodup
    have e := same_len (L := rlist T (A ++ B)) (M := mm.map (·.1)) rlist_nodup hnd fun x => by
      rw [hmem x]
      have h1 := at_none (m := mm) (x := x)
      rw [hmm x] at h1
      by_cases c : x ∈ rlist T A ++ rlist T B
      · rw [if_pos c] at h1
        refine ⟨fun _ => ?_, fun _ => c⟩
        apply Classical.byContradiction
        intro hn
        have := h1.2 hn
        cases this
      · rw [if_neg c] at h1
        exact ⟨fun h => absurd h c, fun h => absurd h (h1.1 rfl)⟩
    rw [List.length_map] at e
    have : ((slz.len : Int) == (mm.length : Int)) = true := by simp; omega
    rw [this]
    exact h _ s.ext

end Go.Proofs.Ytbghccafigmnjaa

/- law12: counts of references; the walks of CollectCounts and CollectSums. -/
set_option linter.unusedVariables false
set_option linter.unusedSimpArgs false
namespace Go.Proofs.Ytbghccafigmnjaa
open Go.Den

variable {w0 w : World} {Ω : List Ob} {most : Int} {T : List ET} {i j : Nat} {p : Addr} {m : yevergreenref12_Store.T}

/-- to write a field of an element -/
theorem Sp.putF {ty : Ty} {K : World → Prop} {sl : Sl} {xs : List ty.T} {a : Option Addr} {len : Nat} {i' : Int} {sz off n : Nat} {x y : ty.T} {ds : List Value} (s : Sp w0 Ω w) (i : Nat) (h : Ω[i]? = some (own ty sl xs)) (hi : i' = (n : Int)) (hx : xs[n]? = some x) (hl : off + ds.length ≤ ty.size) (ho : ds.all Go.Den.one = true) (e : cells ty y = splice (cells ty x) off ds)
    (hK : ∀ w', Sp w0 (Ω.set i (own ty sl (xs.set n y))) w' → K w') (ha : a = sl.a := by rfl) (hlen : len = sl.len := by rfl) (hs : sz = ty.size := by rfl) : idxK a len i' sz (fun p => stK w (p.add off) ds K) := by
  subst ha hlen hs hi
  have o := s.own_ i h
  have hsl := o.view.len
  have hn : n < xs.length := (List.getElem?_eq_some_iff.1 hx).1
  obtain ⟨q, hq⟩ := o.view.ne (fun e => by rw [e] at hn; simp at hn)
  refine ⟨q, hq, by omega, by omega, ?_⟩
  rw [Int.toNat_natCast]
  show stK w ((q.add (n * ty.size)).add off) ds K
  rw [Addr.add_add]
  exact s.put i h hq hx hl ho e hK

/-! ### Counts -/
abbrev ctN (x : Int) (L : List Int) : Int := ((L.count x : Nat) : Int)
def allR (T : List ET) (L : List Int) : List Int := L.flatMap fun y => refs (eAt T y).1
theorem allR_append (T : List ET) (L M : List Int) : allR T (L ++ M) = allR T L ++ allR T M := List.flatMap_append
theorem allR_one (T : List ET) (y : Int) : allR T [y] = refs (eAt T y).1 := by simp [allR]
abbrev CT := Int × Int × Int
def cl (ids R Q : List Int) : List CT := ids.map fun x => (x, ctN x R, ctN x Q)
theorem cl_len (ids R Q : List Int) : (cl ids R Q).length = ids.length := List.length_map _
theorem cl_get {ids R Q : List Int} {k : Nat} {z : Int} (h : ids[k]? = some z) : (cl ids R Q)[k]? = some (z, ctN z R, ctN z Q) := by unfold cl; rw [List.getElem?_map, h]; rfl
theorem ctN_snoc (x z : Int) (L : List Int) : ctN x (L ++ [z]) = ctN x L + (if z = x then 1 else 0) := by
  unfold ctN
  rw [List.count_append, List.count_singleton]
  by_cases h : z = x
  · rw [if_pos h]; simp [h]
  · rw [if_neg h]; simp [h]
theorem nodup_at {ids : List Int} (hn : ids.Nodup) {i j : Nat} {x : Int} (hi : ids[i]? = some x) (hj : ids[j]? = some x) : i = j := by
  have h1 := List.getElem?_eq_some_iff.1 hi
  have h2 := List.getElem?_eq_some_iff.1 hj
  exact (List.getElem_inj hn (h₀ := h1.1) (h₁ := h2.1)).1 (by rw [h1.2, h2.2])
theorem cl_setR {ids R Q : List Int} (hn : ids.Nodup) {k : Nat} {z : Int} (h : ids[k]? = some z) : (cl ids R Q).set k (z, ctN z R + 1, ctN z Q) = cl ids (R ++ [z]) Q := by
  apply List.ext_getElem?
  intro i
  rw [List.getElem?_set]
  by_cases c : k = i
  · subst c
    rw [if_pos rfl, if_pos (by rw [cl_len]; exact (List.getElem?_eq_some_iff.1 h).1), cl_get h, ctN_snoc, if_pos rfl]
  · rw [if_neg c]
    cases hi : ids[i]? with
    | none =>
      have : ids.length ≤ i := List.getElem?_eq_none_iff.1 hi
      rw [List.getElem?_eq_none (by rw [cl_len]; exact this), List.getElem?_eq_none (by rw [cl_len]; exact this)]
    | some x =>
      rw [cl_get hi, cl_get hi, ctN_snoc, if_neg (show ¬ z = x from fun e => c (nodup_at hn h (e ▸ hi)))]
      simp
theorem cl_setQ {ids R Q : List Int} (hn : ids.Nodup) {k : Nat} {z : Int} (h : ids[k]? = some z) : (cl ids R Q).set k (z, ctN z R, ctN z Q + 1) = cl ids R (Q ++ [z]) := by
  apply List.ext_getElem?
  intro i
  rw [List.getElem?_set]
  by_cases c : k = i
  · subst c
    rw [if_pos rfl, if_pos (by rw [cl_len]; exact (List.getElem?_eq_some_iff.1 h).1), cl_get h, ctN_snoc, if_pos rfl]
  · rw [if_neg c]
    cases hi : ids[i]? with
    | none =>
      have : ids.length ≤ i := List.getElem?_eq_none_iff.1 hi
      rw [List.getElem?_eq_none (by rw [cl_len]; exact this), List.getElem?_eq_none (by rw [cl_len]; exact this)]
    | some x =>
      rw [cl_get hi, cl_get hi, ctN_snoc, if_neg (show ¬ z = x from fun e => c (nodup_at hn h (e ▸ hi)))]
      simp
theorem cl_zero {ids R Q : List Int} (hz : (0 : Int) ∉ ids) : cl ids R (Q ++ [0]) = cl ids R Q := by
  unfold cl
  refine List.map_congr_left fun x hx => ?_
  rw [ctN_snoc, if_neg (show ¬ (0 : Int) = x from fun e => hz (e ▸ hx))]
  simp
/-- the list while the numbers are written -/
def clz (ids : List Int) (n : Nat) : List CT := cl (ids.take n) [] [] ++ List.replicate (ids.length - n) ((0 : Int), (0 : Int), (0 : Int))
theorem clz_get {ids : List Int} {n : Nat} (hn : n < ids.length) : (clz ids n)[n]? = some ((0 : Int), (0 : Int), (0 : Int)) := by
  unfold clz
  rw [List.getElem?_append_right (by rw [cl_len, List.length_take]; omega), cl_len, List.length_take, Nat.min_eq_left (by omega), Nat.sub_self, List.getElem?_replicate, if_pos (by omega)]
theorem clz_succ {ids : List Int} {n : Nat} {x : Int} (h : ids[n]? = some x) : (clz ids n).set n (x, 0, 0) = clz ids (n + 1) := by
  have hn := (List.getElem?_eq_some_iff.1 h).1
  unfold clz
  have hl : (cl (ids.take n) [] []).length = n := by rw [cl_len, List.length_take]; omega
  rw [List.set_append, if_neg (by omega), hl, Nat.sub_self, show ids.length - n = (ids.length - (n + 1)) + 1 by omega, List.replicate_succ, List.set_cons_zero, List.take_add_one, h]
  simp [cl, ctN]
theorem clz_end (ids : List Int) : clz ids ids.length = cl ids [] [] := by unfold clz; rw [List.take_length, Nat.sub_self]; simp

theorem eqII : P.underlying t_map_api_ID_int = some (.map t_api_ID (mapElem t_map_api_ID_int)) := by kernel_rfl
theorem zeroIN : zeroOf P (mapElem t_map_api_ID_int) = some (val (.int .i64) (0 : Int)) := by kernel_rfl

noncomputable def cntR (T : List ET) (S : List Int) : List CT := cl (rlist T S) (allR T (rlist T S)) S
theorem refs_rlist (g : Grow T) {S : List Int} (hS : Known_ T S) {y z : Int} (hy : y ∈ rlist T S) (hz : z ∈ refs (eAt T y).1) : z ∈ rlist T S := by
  rw [rlist_mem g hS] at hy ⊢
  exact .ref hy hz

theorem collect_Counts_sp {rsl : Sl} {S : List Int} (s : Sp w0 Ω w) (i : Nat) (hi : Ω[i]? = some (sto p most T)) (hv : ∀ w', Sp w0 Ω w' → View (.int .i64) w' rsl S) (hSN : S.length ≤ 1000000000) {K : Sl × Value → World → Prop}
    (h : Known_ T S → ∀ sl w', Sp w0 (own ycollect_Count sl (cntR T S) :: Ω) w' → K (sl, .nilIface) w')
    (hbad : ¬ Known_ T S → ∀ w', Sp w0 Ω w' → K (⟨none, 0, 0⟩, errV 1) w') : C_collect_Counts (some p) rsl K w := by
  apply S_collect_Counts
  unfold F_collect_Counts
  obtain ⟨_, _, _, hb0, hb1, hb2, hg⟩ := Sp.entry s i hi
  refine collect_Reach_sp s i hi hv hSN (fun hS il w1 s => ?_) (fun hn w1 s => nilIfc_err (gd_t rfl (hbad hn _ s)))
  have hil := (s.view 0 rfl).len
  have hrl := rlist_len T S
  have hnd := rlist_nodup (T := T) (S := S)
  have hz0 : (0 : Int) ∉ rlist T S := fun h0 => by have := (mem_rlist.1 h0).1; omega
  have hrf : ∀ (y z : Int), y ∈ rlist T S → z ∈ refs (eAt T y).1 → z ∈ rlist T S := fun y z => refs_rlist hg hS
  have hbd : ∀ y : Int, y ∈ rlist T S → 1 ≤ y ∧ y ≤ T.length := fun y hy => (mem_rlist.1 hy).1
  have hrt : ∀ z : Int, z ∈ S → z ≠ 0 → z ∈ rlist T S := fun z hz h0 => (rlist_mem hg hS).2 (.root hz h0)
  unfold cntR at h
  generalize rlist T S = ids at *
  have hN : ((il.len : Int)).toNat = ids.length := by omega
  refine nilIfc_nil (gd_f rfl ⟨by omega, by omega, by dsimp only; omega, by dsimp only; omega, s.mkS ycollect_Count ((0 : Int), (0 : Int), (0 : Int)) ids.length ids.length (Nat.le_refl _) (fun a3 w2 s => ?_) rfl (by dsimp only; rw [hN]; rfl)⟩)
  dsimp only
  rw [hN]
  refine s.allocC (.int .i64) fun r w3 s => ?_
  have s : Sp w0 (mc (.int .i64) r [] :: own ycollect_Count ⟨some ⟨a3, 0, none⟩, ids.length, ids.length⟩ (clz ids 0) :: own (.int .i64) il ids :: Ω) w3 := by
    have : clz ids 0 = List.replicate ids.length ((0 : Int), (0 : Int), (0 : Int)) := by simp [clz, cl]
    rw [this]; exact s
  refine loop_by (fun x => x.1) ids.length (fun n _ w => ∃ mm : List (Int × (Ty.int .i64).T), (∀ (k : Nat) (x : Int), k < n → ids[k]? = some x → at? mm x = some (k : Int)) ∧ Sp w0 (mc (.int .i64) r mm :: own ycollect_Count ⟨some ⟨a3, 0, none⟩, ids.length, ids.length⟩ (clz ids n) :: own (.int .i64) il ids :: Ω) w) rfl ⟨[], fun k x hk => by omega, s⟩ ?_
  clear s
  rintro n ⟨x, _⟩ w4 hn hx ⟨mm, hmm, s⟩ _
  dsimp only at hx ⊢
  subst hx
  refine gd_dec (fun hlt => ?_) (fun hge => ?_)
  · have hn' : n < ids.length := by omega
    obtain ⟨y, hy⟩ : ∃ y, ids[n]? = some y := ⟨_, List.getElem?_eq_getElem hn'⟩
    refine (s.view 2 rfl).idx rfl hy rfl fun q hq => ⟨y, hq, Sp.putF (ty := ycollect_Count) (y := (y, 0, 0)) s 1 rfl rfl (clz_get hn') (Nat.le_of_ble_eq_true rfl) rfl rfl fun w5 s => ?_⟩
    rw [clz_succ hy] at s
    refine s.upC (vt := .int .i64) 0 rfl (by decide) eqII eqID y ((n : Nat) : Int) fun w6 s => arith_i64 (by omega) (by omega) (loop_nx hn' ⟨_, fun k z hk hz => ?_, s⟩)
    rw [at_mupd]
    by_cases c : y = z
    · subst c
      rw [if_pos rfl, nodup_at hnd hy hz]
    · rw [if_neg c]
      refine hmm k z ?_ hz
      have : k ≠ n := fun e => by subst e; rw [hy] at hz; exact c (Option.some.inj hz)
      omega
  have en : n = ids.length := by omega
  subst en
  rw [clz_end] at s
  have hget : ∀ (k : Nat) (x : Int) (L : List CT) w, ids[k]? = some x → Sp w0 (mc (.int .i64) r mm :: own ycollect_Count ⟨some ⟨a3, 0, none⟩, ids.length, ids.length⟩ L :: own (.int .i64) il ids :: Ω) w → Lk1 P t_map_api_ID_int (.int .i64) (.map (some r)) (.int .i64 x) (k : Int) w := fun k x L w hk s => by
    have := (s.mc_ 0 rfl).get (by decide) eqII eqID zeroIN x
    rwa [hmm k x (List.getElem?_eq_some_iff.1 hk).1 hk] at this
  refine loop_by (fun x => x.1) ids.length (fun n _ w => Sp w0 (mc (.int .i64) r mm :: own ycollect_Count ⟨some ⟨a3, 0, none⟩, ids.length, ids.length⟩ (cl ids (allR T (ids.take n)) []) :: own (.int .i64) il ids :: Ω) w) rfl s ?_
  clear s
  rintro n ⟨x, _⟩ w7 hn hx s _
  dsimp only at hx ⊢
  subst hx
  refine gd_dec (fun hlt => ?_) (fun hge => ?_)
  · have hn' : n < ids.length := by omega
    obtain ⟨y, hy⟩ : ∃ y, ids[n]? = some y := ⟨_, List.getElem?_eq_getElem hn'⟩
    have hym := List.mem_of_getElem? hy
    have hyb := hbd y hym
    have hal : allR T (ids.take (n + 1)) = allR T (ids.take n) ++ refs (eAt T y).1 := by rw [List.take_add_one, hy, Option.toList_some, allR_append, allR_one]
    have hrl2 := refs_len (eAt T y).1
    refine (s.view 2 rfl).idx rfl hy rfl fun q hq => ⟨y, hq, intern_Rule_k s (i + 3) hi hyb fun w8 s => s.allocK fun a16 w9 s => s.st0 0 rfl rfl rfl fun w10 s => nilIfc_nil (gd_f rfl (s.ld0 (ty := yapi_Rule) (x := (eAt T y).1) 0 rfl rfl (rule_Refs_spec s fun rl w11 s => ?_)))⟩
    have s : Sp w0 (mc (.int .i64) r mm :: own ycollect_Count ⟨some ⟨a3, 0, none⟩, ids.length, ids.length⟩ (cl ids (allR T (ids.take n) ++ (refs (eAt T y).1).take 0) []) :: own (.int .i64) il ids :: own (.int .i64) rl (refs (eAt T y).1) :: Ω) w11 := by
      rw [List.take_zero, List.append_nil]
      exact s.pick [2, 3, 4, 0] 5 rfl (by decide)
    refine loop_by (fun x => x.1) (refs (eAt T y).1).length (fun k _ w => Sp w0 (mc (.int .i64) r mm :: own ycollect_Count ⟨some ⟨a3, 0, none⟩, ids.length, ids.length⟩ (cl ids (allR T (ids.take n) ++ (refs (eAt T y).1).take k) []) :: own (.int .i64) il ids :: own (.int .i64) rl (refs (eAt T y).1) :: Ω) w) rfl s ?_
    clear s
    rintro k ⟨x, _⟩ w12 hk hx s _
    dsimp only at hx ⊢
    subst hx
    have hrll := (s.view 3 rfl).len
    refine gd_dec (fun hlt2 => ?_) (fun hge2 => ?_)
    · have hk' : k < (refs (eAt T y).1).length := by omega
      obtain ⟨z, hz⟩ : ∃ z : Int, (refs (eAt T y).1)[k]? = some z := ⟨_, List.getElem?_eq_getElem hk'⟩
      obtain ⟨kz, hkz⟩ := List.getElem?_of_mem (hrf y z hym (List.mem_of_getElem? hz))
      have hcz := cl_get (R := allR T (ids.take n) ++ (refs (eAt T y).1).take k) (Q := []) hkz
      have hcb : ctN z (allR T (ids.take n) ++ (refs (eAt T y).1).take k) ≤ 3000000 ∧ 0 ≤ ctN z (allR T (ids.take n) ++ (refs (eAt T y).1).take k) := by
        have h1 := List.count_le_length (a := z) (l := allR T (ids.take n) ++ (refs (eAt T y).1).take k)
        have h2 : (allR T (ids.take n)).length ≤ 2 * (ids.take n).length := by
          unfold allR
          generalize ids.take n = L
          induction L with
          | nil => simp
          | cons a L ih => rw [List.flatMap_cons, List.length_append, List.length_cons]; have := refs_len (eAt T a).1; omega
        rw [List.length_append, List.length_take] at h1
        rw [List.length_take] at h2
        unfold ctN
        omega
      refine (s.view 3 rfl).idx rfl hz rfl fun q2 hq2 => ⟨z, hq2, (kz : Int), hget kz z _ _ hkz (s.era 3), (s.view 1 rfl).idx (n := kz) rfl hcz rfl fun q3 hq3 => ⟨ctN z (allR T (ids.take n) ++ (refs (eAt T y).1).take k), hq3.sub 1 rfl, arith_i64 (by omega) (by omega) ?_⟩⟩
      refine Sp.putF (ty := ycollect_Count) (y := (z, ctN z (allR T (ids.take n) ++ (refs (eAt T y).1).take k) + 1, ctN z [])) s 1 rfl rfl hcz (Nat.le_of_ble_eq_true rfl) rfl rfl fun w13 s => arith_i64 (by omega) (by omega) (loop_nx hk' ?_)
      have e : allR T (ids.take n) ++ (refs (eAt T y).1).take (k + 1) = allR T (ids.take n) ++ (refs (eAt T y).1).take k ++ [z] := by rw [List.take_add_one, hz, Option.toList_some, List.append_assoc]
      rw [e, ← cl_setR hnd hkz]
      exact s
    · have ek : k = (refs (eAt T y).1).length := by omega
      subst ek
      rw [List.take_length, ← hal] at s
      exact arith_i64 (by omega) (by omega) (loop_nx hn' (s.era 3))
  have en : n = ids.length := by omega
  subst en
  rw [List.take_length] at s
  have hSl := (hv _ (s.drop 3)).len
  refine loop_by (fun x => x.1) S.length (fun n _ w => Sp w0 (mc (.int .i64) r mm :: own ycollect_Count ⟨some ⟨a3, 0, none⟩, ids.length, ids.length⟩ (cl ids (allR T ids) (S.take n)) :: own (.int .i64) il ids :: Ω) w) rfl s ?_
  clear s
  rintro n ⟨x, _⟩ w14 hn hx s _
  dsimp only at hx ⊢
  subst hx
  refine gd_dec (fun hlt => ?_) (fun hge => ?_)
  · have hn' : n < S.length := by omega
    obtain ⟨z, hz⟩ : ∃ z, S[n]? = some z := ⟨_, List.getElem?_eq_getElem hn'⟩
    have htk : S.take (n + 1) = S.take n ++ [z] := by rw [List.take_add_one, hz]; rfl
    refine ⟨fun _ w => Sp w0 (mc (.int .i64) r mm :: own ycollect_Count ⟨some ⟨a3, 0, none⟩, ids.length, ids.length⟩ (cl ids (allR T ids) (S.take (n + 1))) :: own (.int .i64) il ids :: Ω) w, (hv _ (s.drop 3)).idx rfl hz rfl fun q hq => ⟨z, hq, gd_ne (fun c => ?_) (fun c => ?_)⟩, fun _ w s _ => arith_i64 (by omega) (by omega) (loop_nx hn' s)⟩
    · obtain ⟨kz, hkz⟩ := List.getElem?_of_mem (hrt z (List.mem_of_getElem? hz) c)
      have hcz := cl_get (R := allR T ids) (Q := S.take n) hkz
      have hcb : ctN z (S.take n) ≤ 1000000000 ∧ 0 ≤ ctN z (S.take n) := by
        have h1 := List.count_le_length (a := z) (l := S.take n)
        rw [List.length_take] at h1
        unfold ctN; omega
      refine ⟨(kz : Int), hget kz z _ _ hkz s, (s.view 1 rfl).idx (n := kz) rfl hcz rfl fun q3 hq3 => ⟨ctN z (S.take n), hq3.sub 2 rfl, arith_i64 (by omega) (by omega) ?_⟩⟩
      refine Sp.putF (ty := ycollect_Count) (y := (z, ctN z (allR T ids), ctN z (S.take n) + 1)) s 1 rfl rfl hcz (Nat.le_of_ble_eq_true rfl) rfl rfl fun w15 s => ?_
      rw [htk, ← cl_setQ hnd hkz]
      exact s
    · subst c
      rw [htk, cl_zero hz0]
      exact s
  · have en : n = S.length := by omega
    subst en
    rw [List.take_length] at s
    exact h hS _ _ (s.pick [1] 3 rfl (by decide))

end Go.Proofs.Ytbghccafigmnjaa

/- law12: the specification's Counts; the walks of CollectCounts and CollectSums. -/
set_option linter.unusedVariables false
set_option linter.unusedSimpArgs false
namespace Go.Proofs.Ytbghccafigmnjaa
open Go.Den

variable {w0 w : World} {Ω : List Ob} {most : Int} {T : List ET} {i j : Nat} {p : Addr} {m : yevergreenref12_Store.T}

theorem allR_len (L : List Int) : (allR T L).length ≤ 2 * L.length := by
  unfold allR
  induction L with
  | nil => simp
  | cons a L ih => rw [List.flatMap_cons, List.length_append, List.length_cons]; have := refs_len (eAt T a).1; omega
theorem ctN_le (x : Int) (L : List Int) : 0 ≤ ctN x L ∧ ctN x L ≤ L.length := by
  have := List.count_le_length (a := x) (l := L)
  unfold ctN; omega
theorem cl_snoc (ids R Q : List Int) (x : Int) : cl (ids ++ [x]) R Q = cl ids R Q ++ [(x, ctN x R, ctN x Q)] := by simp [cl]
theorem ref12_Counts_spec {rsl : Sl} {S : List Int} (g : Grow T) (s : Sp w0 Ω w) (j : Nat) (hj : Ω[j]? = some (rf2 m T)) (hl : T.length ≤ 1048576) (hv : ∀ w', Sp w0 Ω w' → View (.int .i64) w' rsl S) (hSN : S.length ≤ 1000000000) {K : Sl × Bool → World → Prop}
    (h : Known_ T S → ∀ sl w', Sp w0 (own yevergreenref12_Count sl (cntR T S) :: Ω) w' → K (sl, true) w')
    (hbad : ¬ Known_ T S → ∀ w', Sp w0 Ω w' → K (⟨none, 0, 0⟩, false) w') : C_ref12_Counts m rsl K w := by
  apply S_ref12_Counts
  unfold F_ref12_Counts
  have hlen := (Sp.rf2_ s j hj).1.len
  rw [rulesOf_len] at hlen
  refine s.allocK fun a1 w1 s => s.ld0 (ty := yevergreenref12_Store) (x := m) 0 rfl rfl (ref12_Reach_spec g s (j + 1) hj hl (fun w' s => hv _ s.pop) hSN (fun hS isl inl w2 hmb s => ?_) (fun hn w2 s => gd_t rfl (hbad hn _ s.pop)))
  refine gd_f rfl ?_
  have hil := hmb.1
  have hend := trues_rlist g hS hmb
  rw [hil] at hend
  unfold cntR at h
  rw [← hend] at h
  generalize hR : allR T (trues inl (T.length + 1)) = R at h
  have t1 : trues inl 1 = [] := by
    obtain ⟨b, hb, hbi⟩ := hmb.2 0 (by omega)
    have : b = false := by
      cases b
      · rfl
      · exact absurd rfl (hbi.1 rfl).1
    subst this
    rw [trues_succ, List.getD_eq_getElem?_getD, hb]; rfl
  refine loop_from 1 (fun x => x.2.1) T.length (fun n x w => Sp w0 (own yevergreenref12_Count x.1 (cl (trues inl (n + 1)) R S) :: own .bool isl inl :: cel a1 (cells yevergreenref12_Store m) :: Ω) w) rfl (by dsimp only; rw [t1]; exact s.nil yevergreenref12_Count) ?_
  clear s
  rintro n ⟨out, x, _⟩ w3 hn hx s _
  dsimp only at hx s ⊢
  subst hx
  have htl := trues_len inl (n + 1)
  refine s.lds (x := m.1) 2 0 rfl rfl (gd_dec (fun hle => ?_) (fun hgt => ?_))
  rotate_left
  · have en : n = T.length := by omega
    subst en
    exact h hS _ _ (s.pick [0] 3 rfl (by decide))
  have hn' : n < T.length := by omega
  obtain ⟨b, hb, hbi⟩ := hmb.2 (n + 1) (by omega)
  have hbd : inl.getD (n + 1) false = b := by rw [List.getD_eq_getElem?_getD, hb]; rfl
  refine ⟨fun x w => Sp w0 (own yevergreenref12_Count x.1 (cl (trues inl (n + 1 + 1)) R S) :: own .bool isl inl :: cel a1 (cells yevergreenref12_Store m) :: Ω) w, (s.view 1 rfl).idx (n := n + 1) (by omega) hb rfl fun q hq => ⟨b, hq, gd_not (gd_mk (fun e => ?_) (fun e => ?_))⟩, fun x w s _ => arith_i64 (by omega) (by omega) (loop_fx hn' s)⟩
  rotate_left
  · rw [trues_succ, hbd, e]
    simpa using s
  -- a reached rule
  have htk : trues inl (n + 1 + 1) = trues inl (n + 1) ++ [((n + 1 : Nat) : Int)] := by rw [trues_succ, hbd, e]; rfl
  have eid : (1 : Int) + (n : Int) = ((n + 1 : Nat) : Int) := by omega
  rw [htk, cl_snoc, eid]
  generalize ((n + 1 : Nat) : Int) = id at *
  refine s.allocK fun c w5 s => s.st0 0 rfl rfl rfl fun w6 s => ?_
  refine loop_from 1 (fun x => x.1) T.length (fun k _ w => Sp w0 (cel c [.int .i64 id, .int .i64 (ctN id (allR T (trues inl (k + 1)))), .int .i64 0] :: own yevergreenref12_Count out (cl (trues inl (n + 1)) R S) :: own .bool isl inl :: cel a1 (cells yevergreenref12_Store m) :: Ω) w) rfl (by rw [t1]; exact s) ?_
  clear s
  rintro k ⟨x, _⟩ w7 hk hx s _
  dsimp only at hx ⊢
  subst hx
  refine s.lds (x := m.1) 3 0 rfl rfl (gd_dec (fun hle2 => ?_) (fun hgt2 => ?_))
  · have hk' : k < T.length := by omega
    obtain ⟨bf, hbf, hbfi⟩ := hmb.2 (k + 1) (by omega)
    have hbfd : inl.getD (k + 1) false = bf := by rw [List.getD_eq_getElem?_getD, hbf]; rfl
    have hget := rulesOf_get (T := T) hk'
    have hr2 := refs_len (eAt T ((k : Int) + 1)).1
    have al := allR_len (T := T) (trues inl (k + 1))
    have tl := trues_len inl (k + 1)
    refine ⟨fun _ w => Sp w0 (cel c [.int .i64 id, .int .i64 (ctN id (allR T (trues inl (k + 1 + 1)))), .int .i64 0] :: own yevergreenref12_Count out (cl (trues inl (n + 1)) R S) :: own .bool isl inl :: cel a1 (cells yevergreenref12_Store m) :: Ω) w, ?_, fun _ w s _ => arith_i64 (by omega) (by omega) (loop_fx hk' s)⟩
    refine s.lds (x := m.1) 3 0 rfl rfl (arith_i64 (by omega) (by omega) ((Sp.rf2_ s (j + 4) hj).1.idx (n := k) (by omega) hget rfl fun q hq => ⟨_, hq, ref12_Refs_spec s fun rl w9 s => ?_⟩))
    generalize hrf : refs (eAt T ((k : Int) + 1)).1 = rf at *
    refine loop_by (fun x => x.1) rf.length (fun d _ w => (d = 0 ∨ bf = true) ∧ Sp w0 (own (.int .i64) rl rf :: cel c [.int .i64 id, .int .i64 (ctN id (allR T (trues inl (k + 1)) ++ rf.take d)), .int .i64 0] :: own yevergreenref12_Count out (cl (trues inl (n + 1)) R S) :: own .bool isl inl :: cel a1 (cells yevergreenref12_Store m) :: Ω) w) rfl ⟨Or.inl rfl, by rw [List.take_zero, List.append_nil]; exact s⟩ ?_
    clear s
    rintro d ⟨x, _⟩ w10 hd hx ⟨hdb, s⟩ _
    dsimp only at hx ⊢
    subst hx
    have hrll := (s.view 0 rfl).len
    have done : (d = rf.length ∨ bf = false) → Sp w0 (cel c [.int .i64 id, .int .i64 (ctN id (allR T (trues inl (k + 1 + 1)))), .int .i64 0] :: own yevergreenref12_Count out (cl (trues inl (n + 1)) R S) :: own .bool isl inl :: cel a1 (cells yevergreenref12_Store m) :: Ω) w10 := by
      intro hend2
      rw [trues_succ, hbfd]
      cases hbf2 : bf with
      | true =>
        have : d = rf.length := by
          rcases hend2 with h | h
          · exact h
          · rw [hbf2] at h; cases h
        subst this
        rw [List.take_length] at s
        rw [if_pos rfl, allR_append, allR_one, show ((k + 1 : Nat) : Int) = (k : Int) + 1 by omega, hrf]
        exact s.pop
      | false =>
        have : d = 0 := by
          rcases hdb with h | h
          · exact h
          · rw [hbf2] at h; cases h
        subst this
        rw [List.take_zero, List.append_nil] at s
        rw [if_neg (by simp), List.append_nil]
        exact s.pop
    refine JoinP.inl (gd_dec (fun hlt => ?_) (fun hge => done (Or.inl (by omega))))
    have hd' : d < rf.length := by omega
    refine (s.view 3 rfl).idx (n := k + 1) (by omega) hbf rfl fun q2 hq2 => ⟨bf, hq2, gd_mk (fun e2 => ?_) (fun e2 => done (Or.inr e2))⟩
    intro _
    obtain ⟨z, hz⟩ : ∃ z : Int, rf[d]? = some z := ⟨_, List.getElem?_eq_getElem hd'⟩
    have etk : allR T (trues inl (k + 1)) ++ rf.take (d + 1) = (allR T (trues inl (k + 1)) ++ rf.take d) ++ [z] := by rw [List.take_add_one, hz, Option.toList_some, List.append_assoc]
    have hcb := ctN_le id (allR T (trues inl (k + 1)) ++ rf.take d)
    rw [List.length_append, List.length_take] at hcb
    refine ⟨fun _ w => Sp w0 (own (.int .i64) rl rf :: cel c [.int .i64 id, .int .i64 (ctN id (allR T (trues inl (k + 1)) ++ rf.take (d + 1))), .int .i64 0] :: own yevergreenref12_Count out (cl (trues inl (n + 1)) R S) :: own .bool isl inl :: cel a1 (cells yevergreenref12_Store m) :: Ω) w, (s.view 0 rfl).idx rfl hz rfl fun q3 hq3 => ⟨z, hq3, gd_eq (fun cz => ?_) (fun cz => ?_)⟩, fun _ w s _ => arith_i64 (by omega) (by omega) (loop_nx hd' ⟨Or.inr e2, s⟩)⟩
    · refine s.ldi (x := ctN id (allR T (trues inl (k + 1)) ++ rf.take d)) 1 1 rfl rfl (arith_i64 (by omega) (by omega) (s.st 1 1 rfl rfl rfl fun w13 s => ?_))
      rw [etk, ctN_snoc, if_pos cz]
      exact s
    · rw [etk, ctN_snoc, if_neg cz, Int.add_zero]
      exact s
  · have ek : k = T.length := by omega
    subst ek
    rw [hR] at s
    have hSl := (hv _ (s.drop 4)).len
    refine loop_by (fun x => x.1) S.length (fun d _ w => Sp w0 (cel c [.int .i64 id, .int .i64 (ctN id R), .int .i64 (ctN id (S.take d))] :: own yevergreenref12_Count out (cl (trues inl (n + 1)) R S) :: own .bool isl inl :: cel a1 (cells yevergreenref12_Store m) :: Ω) w) rfl s ?_
    clear s
    rintro d ⟨x, _⟩ w14 hd hx s _
    dsimp only at hx ⊢
    subst hx
    refine gd_dec (fun hlt => ?_) (fun hge => ?_)
    · have hd' : d < S.length := by omega
      obtain ⟨z, hz⟩ : ∃ z : Int, S[d]? = some z := ⟨_, List.getElem?_eq_getElem hd'⟩
      have etk : S.take (d + 1) = S.take d ++ [z] := by rw [List.take_add_one, hz]; rfl
      have hcb := ctN_le id (S.take d)
      rw [List.length_take] at hcb
      refine ⟨fun _ w => Sp w0 (cel c [.int .i64 id, .int .i64 (ctN id R), .int .i64 (ctN id (S.take (d + 1)))] :: own yevergreenref12_Count out (cl (trues inl (n + 1)) R S) :: own .bool isl inl :: cel a1 (cells yevergreenref12_Store m) :: Ω) w, (hv _ (s.drop 4)).idx rfl hz rfl fun q3 hq3 => ⟨z, hq3, gd_eq (fun cz => ?_) (fun cz => ?_)⟩, fun _ w s _ => arith_i64 (by omega) (by omega) (loop_nx hd' s)⟩
      · refine s.ldi (x := ctN id (S.take d)) 0 2 rfl rfl (arith_i64 (by omega) (by omega) (s.st 0 2 rfl rfl rfl fun w13 s => ?_))
        rw [etk, ctN_snoc, if_pos cz]
        exact s
      · rw [etk, ctN_snoc, if_neg cz, Int.add_zero]
        exact s
    · have ed : d = S.length := by omega
      subst ed
      rw [List.take_length] at s
      refine s.ld0 (ty := yevergreenref12_Count) (x := (id, ctN id R, ctN id S)) 0 rfl rfl (s.allocK fun a46 w17 s => s.app 2 rfl ((s.lit (ty := yevergreenref12_Count) 0 rfl [(id, ctN id R, ctN id S)] 1 rfl rfl).view 0 rfl) (by rw [cl_len]; simp only [List.length_cons, List.length_nil]; omega) fun s47 w18 s => ?_)
      exact s.drop 2

theorem eqCount : eqOK P 3 t_evergreenref12_Count yevergreenref12_Count = true := by kernel_rfl
theorem guardCount : P.eqGuardType P.depth t_evergreenref12_Count = false := by kernel_rfl
theorem count_neq {xo yo : Operand} {x y : CT} {K : Bool → Prop} (h : K (!decide (x = y))) : testK P (do eqGuard .neq t_evergreenref12_Count xo yo (val yevergreenref12_Count x) (val yevergreenref12_Count y); binOp .neq t_evergreenref12_Count (val yevergreenref12_Count x) (val yevergreenref12_Count y)) K :=
  test_neq (by decide) eqCount guardCount (by rw [beqT_dec rfl]; exact h)

theorem law12_CollectCounts_spec {sl psl : Sl} {ops : List MakeT} {picks : List Int} (hv : View yevergreenref12_Make w0 sl ops) (ho : ∀ o ∈ ops, MakeOK o) (hvp : View (.int .i64) w0 psl picks) {K : Bool → World → Prop} (h : ∀ w', Ext w0 w' → K true w') : C_law12_CollectCounts sl psl K w0 := by
  apply S_law12_CollectCounts
  unfold F_law12_CollectCounts
  have hlen := hv.len
  have hpl := hvp.len
  refine JoinP.inl (gd_dec (fun c => fun _ => gd_t rfl (h _ (.refl _ _))) (fun c => fun _ => gd_dec (fun c2 => h _ (.refl _ _)) (fun c2 => ?_)))
  refine law12_begun_spec (Sp.init w0) hv ho (by omega) fun p rs w1 s => gd_f rfl ?_
  refine ref12_Build_spec (most := 1000) s hv ho (by omega) (by omega) fun m rs' w2 s => s.allocK fun a5 w3 s => s.st0 0 rfl rfl rfl fun w4 s => ?_
  have hb := bld_ok (most := 1000) (by decide) ho
  have s : Sp w0 [cel a5 (cells yevergreenref12_Store m), own (.int .i64) rs' (bld 1000 ops).2, rf2 m (bld 1000 ops).1, own (.int .i64) rs (bld 1000 ops).2, sto p 1000 (bld 1000 ops).1] w4 := s
  generalize (bld 1000 ops).1 = T at *
  generalize (bld 1000 ops).2 = res at *
  have hT := hb.len
  have hg := hb.grow
  have hc := hb.cnt
  refine law12_roots_spec s 4 rfl 3 rfl (by omega) (by omega) (fun w' s => hvp.ext s.ext) (by omega) fun rsl w5 s => ?_
  have hrl := rootL_len T res picks
  generalize rootL T res picks = S at *
  refine collect_Counts_sp s 5 rfl (fun w' s => s.view 0 rfl) (by omega) (fun hS l w6 s => ?_) (fun hS w6 s => ?_)
  · refine s.ld0 (ty := yevergreenref12_Store) (x := m) 2 rfl rfl (ref12_Counts_spec hg s 4 rfl (by omega) (fun w' s => s.view 1 rfl) (by omega) (fun _ csl w7 s => ?_) (fun hn => absurd hS hn))
    have l1 := (s.view 1 rfl).len
    have l0 := (s.view 0 rfl).len
    refine gd_f rfl (JoinP.inl (nilIfc_nil (gd_f rfl ?_)))
    intro _
    refine gd_f (by rw [l1, l0]; simp) ?_
    have hcl : (cntR T S).length ≤ 1000 := by
      have := rlist_len T S
      unfold cntR; rw [cl_len]; omega
    have s : Sp w0 [own yevergreenref12_Count csl (cntR T S), own ycollect_Count l (cntR T S)] w7 := s.pick [0, 1] 8 rfl (by decide)
    generalize cntR T S = L at *
    refine loop_by (fun x => x.1) L.length (fun n _ w => Sp w0 [own yevergreenref12_Count csl L, own ycollect_Count l L] w) rfl s ?_
    clear s
    rintro n ⟨x, _⟩ w11 hn hx s _
    dsimp only at hx ⊢
    subst hx
    refine gd_dec (fun hlt => ?_) (fun hge => h _ s.ext)
    have hn' : n < L.length := by omega
    obtain ⟨z, hz⟩ : ∃ z, L[n]? = some z := ⟨_, List.getElem?_eq_getElem hn'⟩
    refine (s.view 1 rfl).idx rfl hz rfl fun q1 hq1 => ⟨z, hq1, s.allocK fun a18 w12 s => s.st0 0 rfl rfl rfl fun w13 s => s.drawK fun w14 s => s.ldi (x := z.1) 0 0 rfl rfl (s.ldi (x := z.2.1) 0 1 rfl rfl (s.ldi (x := z.2.2) 0 2 rfl rfl ?_))⟩
    refine (s.view 1 rfl).idx rfl hz rfl fun q2 hq2 => ⟨z, hq2, count_neq (x := z) (y := z) ?_⟩
    rw [decide_eq_true rfl]
    exact gd_f rfl (arith_i64 (by omega) (by omega) (loop_nx hn' s.pop))
  · refine s.ld0 (ty := yevergreenref12_Store) (x := m) 1 rfl rfl (ref12_Counts_spec hg s 3 rfl (by omega) (fun w' s => s.view 0 rfl) (by omega) (fun hk => absurd hk hS) (fun _ w7 s => ?_))
    exact gd_t rfl (gd_t rfl (is_err (by decide) (h _ s.ext)))

/-! ### Sums -/
def sumC (ids R : List Int) : Int := (ids.map fun x => ctN x R).sum
theorem sumC_snoc (ids R : List Int) (x : Int) : sumC (ids ++ [x]) R = sumC ids R + ctN x R := by simp [sumC]
theorem sumC_cons_R (z : Int) (R : List Int) : ∀ ids : List Int, ids.Nodup → sumC ids (z :: R) = sumC ids R + (if z ∈ ids then 1 else 0)
  | [], _ => rfl
  | x :: ids, hn => by
    rw [List.nodup_cons] at hn
    have ih := sumC_cons_R z R ids hn.2
    have hc : ctN x (z :: R) = ctN x R + (if z = x then 1 else 0) := by
      unfold ctN
      rw [List.count_cons]
      by_cases h : z = x
      · rw [if_pos h]; simp [h]
      · rw [if_neg h]; simp [h]
    show ctN x (z :: R) + sumC ids (z :: R) = (ctN x R + sumC ids R) + _
    rw [ih, hc]
    by_cases h : z = x
    · rw [if_pos h, if_neg (fun h' => hn.1 (h ▸ h')), if_pos (by simp [h])]; omega
    · rw [if_neg h]
      by_cases h' : z ∈ ids
      · rw [if_pos h', if_pos (List.mem_cons_of_mem _ h')]; omega
      · rw [if_neg h', if_neg (by simp; exact ⟨h, h'⟩)]; omega
theorem sumC_nil (ids : List Int) : sumC ids [] = 0 := by
  induction ids with
  | nil => rfl
  | cons x ids ih => show ctN x [] + sumC ids [] = 0; rw [ih]; rfl
theorem sumC_le {ids : List Int} (hn : ids.Nodup) : ∀ R : List Int, 0 ≤ sumC ids R ∧ sumC ids R ≤ R.length
  | [] => by rw [sumC_nil]; simp
  | z :: R => by
    have := sumC_le hn R
    rw [sumC_cons_R z R ids hn]
    simp only [List.length_cons]
    split <;> omega
/-- the members of a list that are not 0 -/
def nzN (R : List Int) : Int := ((R.filter fun z => z != 0).length : Nat)
theorem sumC_all {ids : List Int} (hn : ids.Nodup) (h0 : (0 : Int) ∉ ids) : ∀ R : List Int, (∀ z ∈ R, z ≠ 0 → z ∈ ids) → sumC ids R = nzN R
  | [], _ => by rw [sumC_nil]; rfl
  | z :: R, h => by
    rw [sumC_cons_R z R ids hn, sumC_all hn h0 R fun y hy => h y (List.mem_cons_of_mem _ hy)]
    unfold nzN
    by_cases c : z = 0
    · subst c
      rw [if_neg h0]; simp
    · rw [if_pos (h z (by simp) c)]
      simp [c]
theorem nzN_le (R : List Int) : 0 ≤ nzN R ∧ nzN R ≤ R.length := by
  have := List.length_filter_le (fun z : Int => z != 0) R
  unfold nzN; omega
theorem nzN_snoc (R : List Int) (z : Int) : nzN (R ++ [z]) = nzN R + (if z = 0 then 0 else 1) := by
  unfold nzN
  rw [List.filter_append, List.length_append]
  by_cases c : z = 0
  · rw [if_pos c]; simp [c]
  · rw [if_neg c]; simp [c]
theorem nzN_all {R : List Int} (h : ∀ z ∈ R, z ≠ 0) : nzN R = R.length := by
  unfold nzN
  rw [List.filter_eq_self.2 fun z hz => by simpa using h z hz]

theorem law12_CollectSums_spec {sl psl : Sl} {ops : List MakeT} {picks : List Int} (hv : View yevergreenref12_Make w0 sl ops) (ho : ∀ o ∈ ops, MakeOK o) (hvp : View (.int .i64) w0 psl picks) {K : Bool → World → Prop} (h : ∀ w', Ext w0 w' → K true w') : C_law12_CollectSums sl psl K w0 := by
  apply S_law12_CollectSums
  unfold F_law12_CollectSums
  have hlen := hv.len
  have hpl := hvp.len
  refine JoinP.inl (gd_dec (fun c => fun _ => gd_t rfl (h _ (.refl _ _))) (fun c => fun _ => gd_dec (fun c2 => h _ (.refl _ _)) (fun c2 => ?_)))
  refine law12_begun_spec (Sp.init w0) hv ho (by omega) fun p rs w1 s => gd_f rfl ?_
  have hb := bld_ok (most := 1000) (by decide) ho
  generalize (bld 1000 ops).1 = T at *
  generalize (bld 1000 ops).2 = res at *
  have hT := hb.len
  have hg := hb.grow
  have hc := hb.cnt
  refine law12_roots_spec s 1 rfl 0 rfl (by omega) (by omega) (fun w' s => hvp.ext s.ext) (by omega) fun rsl w5 s => ?_
  have hrl := rootL_len T res picks
  generalize rootL T res picks = S at *
  have hSl := (s.view 0 rfl).len
  refine collect_Counts_sp s 2 rfl (fun w' s => s.view 0 rfl) (by omega) (fun hS l w6 s => ?_) (fun hS w6 s => ?_)
  rotate_left
  · exact nilIfc_err (gd_t rfl (is_err (by decide) (h _ s.ext)))
  have s : Sp w0 [own ycollect_Count l (cntR T S), own (.int .i64) rsl S, sto p 1000 T] w6 := s.pick [0, 1, 3] 4 rfl (by decide)
  have hll := (s.view 0 rfl).len
  have hidl := rlist_len T S
  have hnd := rlist_nodup (T := T) (S := S)
  have hz0 : (0 : Int) ∉ rlist T S := fun h0 => by have := (mem_rlist.1 h0).1; omega
  have hmm : ∀ y : Int, y ∈ rlist T S → (1 ≤ y ∧ y ≤ T.length) ∧ 1 ≤ ctN y (allR T (rlist T S)) + ctN y S := fun y hy => by
    refine ⟨(mem_rlist.1 hy).1, ?_⟩
    have h1 := ctN_le y (allR T (rlist T S))
    have h2 := ctN_le y S
    cases (rlist_mem hg hS).1 hy with
    | root h3 _ =>
      have : 0 < S.count y := List.count_pos_iff.2 h3
      unfold ctN at *; omega
    | ref h3 h4 =>
      have : 0 < (allR T (rlist T S)).count y := List.count_pos_iff.2 (List.mem_flatMap.2 ⟨_, (rlist_mem hg hS).2 h3, h4⟩)
      unfold ctN at *; omega
  have hallR : ∀ z ∈ allR T (rlist T S), z ≠ 0 → z ∈ rlist T S := fun z hz _ => by
    obtain ⟨y, hy, hzy⟩ := List.mem_flatMap.1 hz
    exact refs_rlist hg hS hy hzy
  have hallR0 : ∀ z ∈ allR T (rlist T S), z ≠ 0 := fun z hz e => by
    obtain ⟨y, hy, hzy⟩ := List.mem_flatMap.1 hz
    have := (mem_rlist.1 hy).1
    have := refs_in hg this.1 this.2 hzy
    omega
  have hSin : ∀ z ∈ S, z ≠ 0 → z ∈ rlist T S := fun z hz h0 => (rlist_mem hg hS).2 (.root hz h0)
  have e1 := sumC_all hnd hz0 _ hallR
  rw [nzN_all hallR0] at e1
  have e2 := sumC_all hnd hz0 _ hSin
  have hRl := allR_len (T := T) (rlist T S)
  have hsz := nzN_le S
  unfold cntR at s hll
  rw [cl_len] at hll
  generalize rlist T S = ids at *
  generalize hRR : allR T ids = R at *
  refine nilIfc_nil (gd_f rfl (loop_by (fun x => x.2.1) ids.length (fun n x w => x.1 = ((allR T (ids.take n)).length : Int) - sumC (ids.take n) R ∧ Sp w0 [own ycollect_Count l (cl ids R S), own (.int .i64) rsl S, sto p 1000 T] w) rfl ⟨rfl, s⟩ ?_))
  clear s
  rintro n ⟨acc, x, _⟩ w7 hn hx ⟨hacc, s⟩ _
  dsimp only at hx hacc ⊢
  subst hx
  have bn1 := allR_len (T := T) (ids.take n)
  have bn2 := sumC_le (hnd.sublist (List.take_sublist n ids)) R
  rw [List.length_take] at bn1
  refine gd_dec (fun hlt => ?_) (fun hge => ?_)
  · have hn' : n < ids.length := by omega
    obtain ⟨y, hy⟩ : ∃ y, ids[n]? = some y := ⟨_, List.getElem?_eq_getElem hn'⟩
    have htk : ids.take (n + 1) = ids.take n ++ [y] := by rw [List.take_add_one, hy]; rfl
    obtain ⟨hyb, hpos⟩ := hmm y (List.mem_of_getElem? hy)
    have b1 := ctN_le y R
    have b2 := ctN_le y S
    have hr2 := refs_len (eAt T y).1
    refine (s.view 0 rfl).idx rfl (cl_get hy) rfl fun q hq => ⟨_, hq, s.allocK fun a12 w8 s => s.st0 0 rfl rfl rfl fun w9 s => s.ldi (x := y) 0 0 rfl rfl (intern_Rule_k s 3 rfl hyb fun w10 s => s.allocK fun a15 w11 s => s.st0 0 rfl rfl rfl fun w12 s => ?_)⟩
    refine JoinP.inl (nilIfc_nil (gd_f rfl (s.ldi (x := ctN y R) 1 1 rfl rfl (s.ldi (x := ctN y S) 1 2 rfl rfl (arith_i64 (by omega) (by omega) ?_)))))
    intro _
    refine gd_f (by simp; omega) ?_
    have hsh := hg.shape hyb.1 hyb.2
    refine ⟨fun x w => x.1 = acc + ((refs (eAt T y).1).length : Int) ∧ w = w12, ?_, ?_⟩
    · refine s.ldi (x := (eAt T y).1.1) 0 0 rfl rfl (gd_eq (fun c => arith_i64 (by omega) (by omega) ⟨?_, rfl⟩) (fun c => gd_eq (fun c3 => arith_i64 (by omega) (by omega) ⟨?_, rfl⟩) (fun c3 => ⟨?_, rfl⟩)))
      · unfold refs; rw [if_pos c]; rfl
      · unfold refs; rw [if_neg c, if_pos c3]; rfl
      · unfold refs; rw [if_neg c, if_neg c3]; simp
    rintro ⟨acc', _⟩ w13 ⟨hacc', rfl⟩ _
    dsimp only at hacc' ⊢
    refine s.ldi (x := ctN y R) 1 1 rfl rfl (arith_i64 (by omega) (by omega) (arith_i64 (by omega) (by omega) (loop_nx hn' ⟨?_, s.drop 2⟩)))
    rw [htk, allR_append, allR_one, List.length_append, sumC_snoc, hacc', hacc]
    omega
  have en : n = ids.length := by omega
  subst en
  rw [List.take_length, hRR, e1] at hacc
  have hacc0 : acc = 0 := by omega
  subst hacc0
  refine loop_by (fun x => x.2.1) S.length (fun n x w => x.1 = nzN (S.take n) ∧ Sp w0 [own ycollect_Count l (cl ids R S), own (.int .i64) rsl S, sto p 1000 T] w) rfl ⟨rfl, s⟩ ?_
  clear s
  rintro n ⟨acc, x, _⟩ w14 hn hx ⟨hacc, s⟩ _
  dsimp only at hx hacc ⊢
  subst hx hacc
  have bn3 := nzN_le (S.take n)
  rw [List.length_take] at bn3
  refine gd_dec (fun hlt => ?_) (fun hge => ?_)
  · have hn' : n < S.length := by omega
    obtain ⟨z, hz⟩ : ∃ z, S[n]? = some z := ⟨_, List.getElem?_eq_getElem hn'⟩
    have htk : S.take (n + 1) = S.take n ++ [z] := by rw [List.take_add_one, hz]; rfl
    refine ⟨fun x w => x.1 = nzN (S.take (n + 1)) ∧ Sp w0 [own ycollect_Count l (cl ids R S), own (.int .i64) rsl S, sto p 1000 T] w, (s.view 1 rfl).idx rfl hz rfl fun q hq => ⟨z, hq, gd_ne (fun c => arith_i64 (by omega) (by omega) ⟨?_, s⟩) (fun c => ⟨?_, s⟩)⟩, fun x w hxs _ => arith_i64 (by omega) (by omega) (loop_nx hn' hxs)⟩
    · dsimp only; rw [htk, nzN_snoc, if_neg c]
    · dsimp only; rw [htk, nzN_snoc, if_pos c, Int.add_zero]
  have en : n = S.length := by omega
  subst en
  rw [List.take_length]
  refine loop_by (fun x => x.2.1) ids.length (fun n x w => x.1 = nzN S - sumC (ids.take n) S ∧ Sp w0 [own ycollect_Count l (cl ids R S), own (.int .i64) rsl S, sto p 1000 T] w) rfl ⟨by simp [sumC], s⟩ ?_
  clear s
  rintro n ⟨acc, x, _⟩ w16 hn hx ⟨hacc, s⟩ _
  dsimp only at hx hacc ⊢
  subst hx hacc
  have bn4 := sumC_le (hnd.sublist (List.take_sublist n ids)) S
  refine gd_dec (fun hlt => ?_) (fun hge => ?_)
  · have hn' : n < ids.length := by omega
    obtain ⟨y, hy⟩ : ∃ y, ids[n]? = some y := ⟨_, List.getElem?_eq_getElem hn'⟩
    have htk : ids.take (n + 1) = ids.take n ++ [y] := by rw [List.take_add_one, hy]; rfl
    have b2 := ctN_le y S
    refine (s.view 0 rfl).idx rfl (cl_get hy) rfl fun q hq => ⟨_, hq, s.allocK fun a42 w17 s => s.st0 0 rfl rfl rfl fun w18 s => s.ldi (x := ctN y S) 0 2 rfl rfl (arith_i64 (by omega) (by omega) (arith_i64 (by omega) (by omega) (loop_nx hn' ⟨?_, s.pop⟩)))⟩
    rw [htk, sumC_snoc]; omega
  · have en : n = ids.length := by omega
    subst en
    rw [List.take_length, e2]
    refine gd_t rfl ?_
    have : (nzN S - nzN S == 0) = true := by simp
    rw [this]
    exact h _ s.ext

end Go.Proofs.Ytbghccafigmnjaa

/- law12: what a table of held rules answers: Hold, Release, Held, Roots, Live, Garbage. -/
set_option linter.unusedVariables false
set_option linter.unusedSimpArgs false
namespace Go.Proofs.Ytbghccafigmnjaa
open Go.Den

variable {w0 w : World} {Ω : List Ob} {most : Int} {T : List ET} {i j a b q r : Nat} {p : Addr} {m : yevergreenref12_Store.T} {mm : List (Int × (Ty.int .i64).T)}

/-- a table in memory: its cells, its map, its store -/
structure Tb (Ω : List Ob) (a b i q r : Nat) (p : Addr) (most : Int) (T : List ET) (mm : List (Int × (Ty.int .i64).T)) : Prop where
  ha : Ω[a]? = some (cel q [.pointer (some p), .map (some r)])
  hb : Ω[b]? = some (mc (.int .i64) r mm)
  hi : Ω[i]? = some (sto p most T)
theorem Tb.cons (t : Tb Ω a b i q r p most T mm) (o : Ob) : Tb (o :: Ω) (a + 1) (b + 1) (i + 1) q r p most T mm := ⟨t.ha, t.hb, t.hi⟩
/-- how often each rule is held -/
def opt (v : Int) : Option Int := if v = 0 then none else some v
theorem opt_zero {v : Int} (h : v = 0) : opt v = none := if_pos h
theorem opt_ne {v : Int} (h : v ≠ 0) : opt v = some v := if_neg h
def HeldF (mm : List (Int × (Ty.int .i64).T)) (c : Int → Int) : Prop := ∀ y, at? mm y = opt (c y)
theorem HeldF.get {c : Int → Int} (h : HeldF mm c) (y : Int) : (at? mm y).getD 0 = c y := by
  rw [h y]
  by_cases hc : c y = 0
  · rw [opt_zero hc, hc]; rfl
  · rw [opt_ne hc]; rfl
theorem HeldF.mem {c : Int → Int} (h : HeldF mm c) (y : Int) : y ∈ mm.map (·.1) ↔ c y ≠ 0 := by
  have h1 := at_none (m := mm) (x := y)
  rw [h y] at h1
  by_cases hc : c y = 0
  · rw [opt_zero hc] at h1
    exact ⟨fun hm => absurd hm (h1.1 rfl), fun h => absurd hc h⟩
  · rw [opt_ne hc] at h1
    refine ⟨fun _ => hc, fun _ => ?_⟩
    apply Classical.byContradiction
    intro hn
    have := h1.2 hn
    cases this

theorem Table_none_sp (t : Tb Ω a b i q r p most T mm) (s : Sp w0 Ω w) {K : Bool → World → Prop} (h : K false w) : C_collect_Table_none (some ⟨q, 0, none⟩) K w := by
  apply S_collect_Table_none
  unfold F_collect_Table_none
  exact gd_f rfl (nonNil_some (s.ldp (x := some p) a 0 t.ha rfl h))
theorem Table_none_nil {K : Bool → World → Prop} (h : K true w) : C_collect_Table_none none K w := by
  apply S_collect_Table_none
  unfold F_collect_Table_none
  exact gd_t rfl h

theorem Table_Hold_sp {id : Int} {c : Int → Int} (t : Tb Ω a b i q r p most T mm) (s : Sp w0 Ω w) (hc : HeldF mm c) (hcb : ∀ y, 0 ≤ c y ∧ c y ≤ 1000000000) {K : Value → World → Prop}
    (h1 : (0 ≤ id ∧ id ≤ (T.length : Int)) → ∀ mm' w', HeldF mm' (fun y => c y + if id ≠ 0 ∧ y = id then 1 else 0) → Sp w0 (Ω.set b (mc (.int .i64) r mm')) w' → K .nilIface w')
    (h2 : ¬ (0 ≤ id ∧ id ≤ (T.length : Int)) → ∀ w', Sp w0 Ω w' → K (errV 1) w') : C_collect_Table_Hold (some ⟨q, 0, none⟩) id K w := by
  apply S_collect_Table_Hold
  unfold F_collect_Table_Hold
  refine Table_none_sp t s (gd_f rfl (nonNil_some (s.ldp (x := some p) a 0 t.ha rfl (collect_known_sp s i t.hi ?_))))
  by_cases hk : 0 ≤ id ∧ id ≤ (T.length : Int)
  · rw [show known T id = true from decide_eq_true hk]
    refine gd_f rfl (JoinP.inl (gd_ne (fun c0 => ?_) (fun c0 => ?_)))
    · have hl := (s.mc_ b t.hb).get (by decide) eqII eqID zeroIN id
      rw [hc.get] at hl
      have := hcb id
      refine nonNil_some (s.ldm (x := some r) a 1 t.ha rfl ⟨c id, hl, arith_i64 (by omega) (by omega) (s.upC (vt := .int .i64) b t.hb (by decide) eqII eqID id (c id + 1) fun w4 s => ?_)⟩)
      intro _
      refine h1 hk _ _ (fun y => ?_) s
      dsimp only
      rw [at_mupd, hc y]
      by_cases hy : id = y
      · subst hy
        rw [if_pos rfl, if_pos ⟨c0, rfl⟩, opt_ne (by omega)]
      · rw [if_neg hy, if_neg (fun h => hy h.2.symm), Int.add_zero]
    · intro _
      refine h1 hk mm _ (fun y => ?_) (by rw [setSame t.hb]; exact s)
      dsimp only
      rw [if_neg (show ¬ (id ≠ 0 ∧ y = id) from fun h => h.1 c0), Int.add_zero]
      exact hc y
  · rw [show known T id = false from decide_eq_false hk]
    exact gd_t rfl (h2 hk _ s)
theorem Table_Release_sp {id : Int} {c : Int → Int} (t : Tb Ω a b i q r p most T mm) (s : Sp w0 Ω w) (hc : HeldF mm c) (hcb : ∀ y, 0 ≤ c y ∧ c y ≤ 1000000000) {K : Value → World → Prop}
    (h1 : (0 ≤ id ∧ id ≤ (T.length : Int)) → c id ≠ 0 → ∀ mm' w', HeldF mm' (fun y => c y - if y = id then 1 else 0) → Sp w0 (Ω.set b (mc (.int .i64) r mm')) w' → K .nilIface w')
    (h2 : (0 ≤ id ∧ id ≤ (T.length : Int)) → c id = 0 → ∀ w', Sp w0 Ω w' → K (errV 7) w')
    (h3 : ¬ (0 ≤ id ∧ id ≤ (T.length : Int)) → ∀ w', Sp w0 Ω w' → K (errV 1) w') : C_collect_Table_Release (some ⟨q, 0, none⟩) id K w := by
  apply S_collect_Table_Release
  unfold F_collect_Table_Release
  refine Table_none_sp t s (gd_f rfl (nonNil_some (s.ldp (x := some p) a 0 t.ha rfl (collect_known_sp s i t.hi ?_))))
  by_cases hk : 0 ≤ id ∧ id ≤ (T.length : Int)
  · rw [show known T id = true from decide_eq_true hk]
    have hl := (s.mc_ b t.hb).get (by decide) eqII eqID zeroIN id
    have hnd := (s.mc_ b t.hb).nodup
    rw [hc.get] at hl
    have hb := hcb id
    refine gd_f rfl (JoinP.inl (nonNil_some (s.ldm (x := some r) a 1 t.ha rfl ⟨c id, hl, gd_eq (fun c0 => h2 hk c0 _ s) (fun c0 => gd_eq (fun c1 => ?_) (fun c1 => ?_))⟩)))
    · refine nonNil_some (s.ldm (x := some r) a 1 t.ha rfl (s.delC (vt := .int .i64) (0 : Int) b t.hb (by decide) eqII eqID id fun w4 s => ?_))
      intro _
      refine h1 hk c0 _ _ (fun y => ?_) s
      dsimp only
      rw [at_mdel id y hnd, hc y]
      by_cases hy : id = y
      · subst hy
        rw [if_pos rfl, if_pos rfl, opt_zero (by omega)]
      · rw [if_neg hy, if_neg (Ne.symm hy), Int.sub_zero]
    · refine nonNil_some (s.ldm (x := some r) a 1 t.ha rfl ⟨c id, hl, arith_i64 (by omega) (by omega) (s.upC (vt := .int .i64) b t.hb (by decide) eqII eqID id (c id - 1) fun w4 s => ?_)⟩)
      intro _
      refine h1 hk c0 _ _ (fun y => ?_) s
      dsimp only
      rw [at_mupd, hc y]
      by_cases hy : id = y
      · subst hy
        rw [if_pos rfl, if_pos rfl, opt_ne (by omega)]
      · rw [if_neg hy, if_neg (Ne.symm hy), Int.sub_zero]
  · rw [show known T id = false from decide_eq_false hk]
    exact gd_t rfl (h3 hk _ s)
theorem Table_Held_sp {id : Int} {c : Int → Int} (t : Tb Ω a b i q r p most T mm) (s : Sp w0 Ω w) (hc : HeldF mm c) {K : Int → World → Prop} (h : K (c id) w) : C_collect_Table_Held (some ⟨q, 0, none⟩) id K w := by
  apply S_collect_Table_Held
  unfold F_collect_Table_Held
  have hl := (s.mc_ b t.hb).get (by decide) eqII eqID zeroIN id
  rw [hc.get] at hl
  exact Table_none_sp t s (gd_f rfl (nonNil_some (s.ldm (x := some r) a 1 t.ha rfl ⟨c id, hl, h⟩)))

/-! ### Roots -/
theorem nodup_map_inj {α β : Type} {f : α → β} : ∀ {L : List α}, (L.map f).Nodup → ∀ {x y : α}, x ∈ L → y ∈ L → f x = f y → x = y
  | [], _, _, _, h, _, _ => by cases h
  | z :: L, hn, x, y, hx, hy, e => by
    rw [List.map_cons, List.nodup_cons] at hn
    rcases List.mem_cons.1 hx with h1 | h1 <;> rcases List.mem_cons.1 hy with h2 | h2
    · rw [h1, h2]
    · exact absurd (List.mem_map.2 ⟨y, h2, by rw [← e, h1]⟩) hn.1
    · exact absurd (List.mem_map.2 ⟨x, h1, by rw [e, h2]⟩) hn.1
    · exact nodup_map_inj hn.2 h1 h2 e
theorem nodup_len_le {α : Type} [DecidableEq α] : ∀ {L M : List α}, L.Nodup → (∀ x ∈ L, x ∈ M) → L.length ≤ M.length
  | [], _, _, _ => Nat.zero_le _
  | x :: L, M, hn, h => by
    rw [List.nodup_cons] at hn
    have hx := h x (by simp)
    have := nodup_len_le (L := L) (M := M.erase x) hn.2 fun y hy => by
      have hne : y ≠ x := fun e => hn.1 (e ▸ hy)
      exact (List.mem_erase_of_ne hne).2 (h y (List.mem_cons_of_mem _ hy))
    rw [List.length_erase_of_mem hx] at this
    have := List.length_pos_of_mem hx
    simp only [List.length_cons]; omega
theorem int_inj {x y : Int} (h : Value.int .i64 x = Value.int .i64 y) : x = y := by cases h; rfl
theorem mem_ints {x : Int} {ks : List Int} : Value.int .i64 x ∈ ks.map (Value.int .i64) ↔ x ∈ ks := by
  rw [List.mem_map]
  constructor
  · rintro ⟨y, hy, e⟩
    rw [← int_inj e]; exact hy
  · exact fun h => ⟨x, h, rfl⟩
theorem Told_.keyMap {arr : Array MapEntry} {clock : Nat} (t : Told_ (.int .i64) mm arr clock) : arr.toList.map (·.key) = (mm.map (·.1)).map (Value.int .i64) := by
  have := congrArg (List.map Prod.fst) t.eq
  simpa [PairOf, List.map_map, Function.comp_def] using this
theorem Told_.keyNodup {arr : Array MapEntry} {clock : Nat} (t : Told_ (.int .i64) mm arr clock) : (arr.toList.map (·.key)).Nodup := by
  rw [Told_.keyMap t]
  have : ∀ L : List Int, L.Nodup → (L.map (Value.int .i64)).Nodup := by
    intro L
    induction L with
    | nil => intro _; exact List.nodup_nil
    | cons x L ih =>
      intro h
      rw [List.nodup_cons] at h
      rw [List.map_cons, List.nodup_cons]
      exact ⟨fun hm => h.1 (mem_ints.1 hm), ih h.2⟩
  exact this _ t.keys
theorem Table_Roots_sp (t : Tb Ω a b i q r p most T mm) (s : Sp w0 Ω w) (hN : mm.length ≤ 2000000) {K : Sl → World → Prop}
    (h : ∀ sl (R : List (Ty.int .i64).T) w', R.Pairwise (fun x y => x < y) → (∀ x : Int, x ∈ R ↔ x ∈ mm.map (·.1)) → Sp w0 (own (.int .i64) sl R :: Ω) w' → K sl w') : C_collect_Table_Roots (some ⟨q, 0, none⟩) K w := by
  apply S_collect_Table_Roots
  unfold F_collect_Table_Roots
  refine Table_none_sp t s (gd_f rfl (nonNil_some (s.ldm (x := some r) a 1 t.ha rfl ⟨_, (s.mc_ b t.hb).len, by decide, by omega, by omega, by omega, ?_⟩)))
  refine s.mkS (.int .i64) (0 : Int) 0 mm.length (Nat.zero_le _) fun a5 w2 s => nonNil_some ?_
  refine s.ldm (x := some r) (a + 1) 1 t.ha rfl ?_
  obtain ⟨arr, clock, tt, s⟩ := Sp.tell s (b + 1) t.hb
  have hbl : b < Ω.length := (List.getElem?_eq_some_iff.1 t.hb).1
  have hmx : (Ω.set b (mx r arr clock))[b]? = some (mx r arr clock) := setGet t.hb
  have hback : (Ω.set b (mx r arr clock)).set b (mc (.int .i64) r mm) = Ω := by rw [List.set_set, setSame t.hb]
  refine s.rangeC (b + 1) hmx eqII fun rr w3 s => ?_
  have hsz : arr.size = mm.length := by
    have := congrArg List.length tt.eq
    simpa [PairOf] using this
  have s : Sp w0 (own (.int .i64) ⟨some ⟨a5, 0, none⟩, 0, mm.length⟩ [] :: itr rr r clock #[] :: Ω.set b (mx r arr clock)) w3 := s.pick [1, 0] 2 rfl (by decide)
  refine ⟨fun x w => ∃ (sel : List MapEntry) (ks : List (Ty.int .i64).T), (sel.map (·.born)).Nodup ∧ (∀ e ∈ sel, e ∈ arr.toList) ∧ sel.map (·.key) = ks.map (Value.int .i64) ∧ ks.Nodup ∧ Sp w0 (own (.int .i64) x.1 ks :: itr rr r clock (sel.map (·.born)).toArray :: Ω.set b (mx r arr clock)) w, fun x _ => mm.length - x.1.len, ⟨[], [], List.nodup_nil, by simp, rfl, List.nodup_nil, s⟩, ?_⟩
  clear s
  rintro ⟨sl, _⟩ w4 ⟨sel, ks, hsb, hsa, hsk, hkn, s⟩ _
  dsimp only at s ⊢
  have hsl := (s.view 0 rfl).len
  have hkl : sel.length = ks.length := by simpa using congrArg List.length hsk
  refine Sp.roundC tt s 1 (b + 2) rfl hmx (fun hall => ?_) (fun e k w5 he hen hek s => ?_)
  · refine slices_Sort_sp s 0 rfl ?_ fun w6 s => ?_
    · have hle := nodup_len_le (L := sel.map (·.born)) (M := arr.toList.map (·.born)) hsb fun x hx => by
        obtain ⟨e, he, rfl⟩ := List.mem_map.1 hx
        exact List.mem_map.2 ⟨e, hsa e he, rfl⟩
      simp only [List.length_map, Array.length_toList] at hle
      omega
    · have s2 : Sp w0 (own (.int .i64) sl (srt ks) :: itr rr r clock (sel.map (·.born)).toArray :: Ω.set b (mx r arr clock)) w6 := s
      have s3 := Sp.untell tt (s2.era 1) (b + 1) hmx
      have s4 : Sp w0 (own (.int .i64) sl (srt ks) :: (Ω.set b (mx r arr clock)).set b (mc (.int .i64) r mm)) w6 := s3
      rw [hback] at s4
      refine h sl _ _ (srt_lt hkn) (fun x => ?_) s4
      rw [(srt_perm ks).mem_iff, ← mem_ints (ks := ks), ← hsk, ← mem_ints (ks := mm.map (·.1)), ← Told_.keyMap tt]
      constructor
      · intro hx
        obtain ⟨e, he, hk⟩ := List.mem_map.1 hx
        exact List.mem_map.2 ⟨e, hsa e he, hk⟩
      · intro hx
        obtain ⟨e, he, hk⟩ := List.mem_map.1 hx
        have := hall e he
        rw [List.toList_toArray] at this
        obtain ⟨e', he', hb'⟩ := List.mem_map.1 this
        have : e' = e := nodup_map_inj tt.born (hsa e' he') he hb'
        subst this
        exact List.mem_map.2 ⟨e', he', hk⟩
  · have hnk : k ∉ ks := fun hm => by
      rw [← mem_ints, ← hsk] at hm
      obtain ⟨e', he', hk'⟩ := List.mem_map.1 hm
      have : e' = e := nodup_map_inj (Told_.keyNodup tt) (hsa e' he') he (hk'.trans hek.symm)
      subst this
      exact hen (by rw [List.toList_toArray]; exact List.mem_map.2 ⟨e', he', rfl⟩)
    have hsb' : ((sel ++ [e]).map (·.born)).Nodup := by
      rw [List.map_append, List.nodup_append]
      refine ⟨hsb, by simp, fun x hx y hy => ?_⟩
      simp at hy
      subst hy
      exact fun e' => hen (by rw [List.toList_toArray]; exact e' ▸ hx)
    have hle := nodup_len_le (L := (sel ++ [e]).map (·.born)) (M := arr.toList.map (·.born)) hsb' fun x hx => by
      obtain ⟨e', he', rfl⟩ := List.mem_map.1 hx
      rcases List.mem_append.1 he' with h | h
      · exact List.mem_map.2 ⟨e', hsa e' h, rfl⟩
      · simp at h; subst h; exact List.mem_map.2 ⟨e', he, rfl⟩
    simp only [List.length_map, List.length_append, List.length_cons, List.length_nil, Array.length_toList] at hle
    refine s.allocK fun a15 w7 s => s.app 1 rfl ((s.lit (ty := .int .i64) 0 rfl [k] 1 rfl rfl).view 0 rfl) (by simp only [List.length_cons, List.length_nil]; omega) fun s16 w8 s => ?_
    have s2 := s.pop
    have hl2 := (s2.view 0 rfl).len
    simp only [List.length_append, List.length_cons, List.length_nil] at hl2
    refine ⟨⟨sel ++ [e], ks ++ [k], hsb', fun e' he' => ?_, ?_, ?_, ?_⟩, ?_⟩
    · rcases List.mem_append.1 he' with h | h
      · exact hsa e' h
      · simp at h; subst h; exact he
    · rw [List.map_append, List.map_append, hsk]; simp [hek]
    · rw [List.nodup_append]
      exact ⟨hkn, by simp, fun x hx y hy => by simp at hy; subst hy; exact fun e => hnk (e ▸ hx)⟩
    · have e2 : ((sel ++ [e]).map (·.born)).toArray = (sel.map (·.born)).toArray.push e.born := by simp
      rw [e2]
      exact s2
    · omega

/-! ### Live, Garbage -/
theorem rlist_congr {S S' : List Int} (h : ∀ x, x ≠ 0 → (x ∈ S ↔ x ∈ S')) : rlist T S = rlist T S' := by
  refine sorted_unique rlist_sorted rlist_sorted fun x => ?_
  rw [mem_rlist, mem_rlist]
  have key : ∀ (A B : List Int), (∀ x, x ≠ 0 → (x ∈ A → x ∈ B)) → ∀ x, Rch T A x → Rch T B x := fun A B hAB x hx => by
    induction hx with
    | root h1 h2 => exact .root (hAB _ h2 h1) h2
    | ref _ h2 ih => exact .ref ih h2
  exact and_congr_right fun _ => ⟨key S S' (fun x h0 => (h x h0).1) x, key S' S (fun x h0 => (h x h0).2) x⟩
/-- the table holds what the list tells -/
structure TH (T : List ET) (mm : List (Int × (Ty.int .i64).T)) (held : List Int) : Prop where
  f : HeldF mm (fun y => ctN y held)
  nz : ∀ y ∈ held, 1 ≤ y ∧ y ≤ (T.length : Int)
  len : held.length ≤ 1000000
theorem TH.mem {held : List Int} (t : TH T mm held) (y : Int) : y ∈ mm.map (·.1) ↔ y ∈ held := by
  rw [t.f.mem y]
  unfold ctN
  rw [← List.count_pos_iff (a := y) (l := held)]
  omega
theorem TH.known {held : List Int} (t : TH T mm held) : Known_ T held := fun y hy => by have := t.nz y hy; omega
theorem Table_Live_sp {held : List Int} (t : Tb Ω a b i q r p most T mm) (th : TH T mm held) (s : Sp w0 Ω w) {K : Sl → World → Prop}
    (h : ∀ sl w', Sp w0 (own (.int .i64) sl (rlist T held) :: Ω) w' → K sl w') : C_collect_Table_Live (some ⟨q, 0, none⟩) K w := by
  apply S_collect_Table_Live
  unfold F_collect_Table_Live
  obtain ⟨_, _, _, hb0, hb1, hb2, hg⟩ := Sp.entry s i t.hi
  have hnd := (s.mc_ b t.hb).nodup
  have hml : mm.length ≤ T.length := by
    have := nodup_bound (L := mm.map (·.1)) (n := T.length) hnd fun x hx => th.nz x ((th.mem x).1 hx)
    simpa using this
  refine Table_none_sp t s (gd_f rfl (s.drawK fun w2 s => nonNil_some (s.ldp (x := some p) a 0 t.ha rfl (Table_Roots_sp t s (by omega) fun rl R w3 hR hRm s => ⟨s.still (a + 1) 0 t.ha rfl, ?_⟩))))
  have hRk : Known_ T R := fun x hx => by have := th.nz x ((th.mem x).1 ((hRm x).1 hx)); omega
  have hRl : R.length ≤ T.length := nodup_bound (L := R) (hR.imp fun {a b} (h : (a : Int) < b) => Int.ne_of_lt h) fun x hx => th.nz x ((th.mem x).1 ((hRm x).1 hx))
  refine collect_Reach_sp (S := R) s (i + 1) t.hi (fun w' s => s.view 0 rfl) (Nat.le_trans hRl (by omega)) (fun _ sl w4 s => ?_) (fun hn => absurd hRk hn)
  have e : rlist T R = rlist T held := rlist_congr fun x _ => by rw [hRm x, th.mem x]
  rw [e] at s
  exact nilIfc_nil (gd_f rfl (h sl _ (s.era 1)))
theorem Table_Garbage_sp {held : List Int} (t : Tb Ω a b i q r p most T mm) (th : TH T mm held) (s : Sp w0 Ω w) {K : Int → World → Prop}
    (h : ∀ w', Sp w0 Ω w' → K ((T.length : Int) - ((rlist T held).length : Int)) w') : C_collect_Table_Garbage (some ⟨q, 0, none⟩) K w := by
  apply S_collect_Table_Garbage
  unfold F_collect_Table_Garbage
  obtain ⟨_, _, _, hb0, hb1, hb2, hg⟩ := Sp.entry s i t.hi
  have hrl := rlist_len T held
  refine Table_none_sp t s (gd_f rfl (nonNil_some (s.ldp (x := some p) a 0 t.ha rfl (intern_Len_sp s i t.hi (Table_Live_sp t th s fun sl w3 s => ?_)))))
  have hl := (s.view 0 rfl).len
  rw [hl]
  exact arith_i64 (by omega) (by omega) (h _ s.pop)

end Go.Proofs.Ytbghccafigmnjaa
