/- Texts that belong together, joined: Lib, SpecA, SpecB, SpecC, His, MapC, MapS, SortL, Sort, SortLI, SortI, SpecD, SpecE, SpecF, Str, Refs, Err. No conditions. -/
import Derived.KernelRfl
import Derived.Maps.RangeRun
import Derived.Shelf.SortM.Plain
import Derived.Shelf.SortM.SortNone
import Derived.Test.YtnmgjpcooncjlaaGreatProg
import Derived.Laws.BytesString
import Derived.Test.YtnmgjpcooncjlaaGreatGB
import Derived.Test.YtnmgjpcooncjlaaGreatXA
import Derived.Test.YtnmgjpcooncjlaaGreatX0
/- law51: what Go's package slices computes here: Clone, Index, Contains, Reverse, Compact. -/
set_option linter.unusedVariables false
set_option linter.unusedSimpArgs false
namespace Go.Proofs.YtnmgjpcooncjlaaGreat
open Go.Den

variable {w0 w : World} {Ω : List Ob} {i j : Nat}

theorem slices_Clone_spec {sl : Sl} {xs : List (Ty.int .i64).T} (s : Sp w0 Ω w) (hv : ∀ w', Sp w0 Ω w' → View (.int .i64) w' sl xs) (hN : xs.length ≤ 1000000000) {K : Sl → World → Prop} (h : ∀ s' w', Sp w0 (own (.int .i64) s' xs :: Ω) w' → K s' w') : C_slices_Clone sl K w := by
  apply S_slices_Clone
  unfold F_slices_Clone
  cases ha : sl.a with
  | none =>
    have : xs = [] := by
      apply Classical.byContradiction
      intro hne
      obtain ⟨q, hq⟩ := (hv _ s).ne hne
      rw [ha] at hq; cases hq
    subst this
    exact gd_t rfl (h _ _ (s.nil _))
  | some q =>
    refine gd_f rfl (s.allocK fun a1 w1 s => ?_)
    have s := s.lit (ty := .int .i64) 0 rfl [] 0 rfl rfl
    have v := hv _ s.pop
    rw [← ha]
    exact s.app 0 rfl v (by simp only [List.length_nil]; omega) fun s2 w2 s => h _ _ s
theorem slices_Index_spec {sl : Sl} {xs : List (Ty.int .i64).T} {v : Int} (hv : View (.int .i64) w sl xs) (hN : xs.length ≤ 1000000000) {K : Int → World → Prop} (h1 : v ∉ xs → K (-1) w) (h2 : ∀ r : Int, 0 ≤ r → v ∈ xs → K r w) : C_slices_Index sl v K w := by
  apply S_slices_Index
  unfold F_slices_Index
  have hl := hv.len
  refine loop_by (fun x => x.1) xs.length (fun n _ w' => v ∉ xs.take n ∧ w' = w) rfl ⟨by simp, rfl⟩ ?_
  rintro n ⟨x, _⟩ w1 hn hx ⟨hno, rfl⟩ _
  dsimp only at hx ⊢
  subst hx
  refine gd_dec (fun hlt => ?_) (fun hge => ?_)
  · have hn' : n < xs.length := by omega
    have hget := List.getElem?_eq_getElem hn'
    have hmem := List.getElem_mem hn'
    generalize xs[n] = z at hget hmem
    refine hv.idx rfl hget rfl fun q hq => ⟨z, hq, gd_eq (fun c => h2 _ (by omega) (by rw [c]; exact hmem)) (fun c => arith_i64 (by omega) (by omega) (loop_nx hn' ⟨?_, rfl⟩))⟩
    rw [List.take_add_one, hget]
    simp only [Option.toList_some, List.mem_append, List.mem_singleton, not_or]
    exact ⟨hno, c⟩
  · have e : n = xs.length := by omega
    subst e
    rw [List.take_length] at hno
    exact h1 hno
theorem slices_Contains_spec {sl : Sl} {xs : List (Ty.int .i64).T} {v : Int} (hv : View (.int .i64) w sl xs) (hN : xs.length ≤ 1000000000) {K : Bool → World → Prop} (h : K (decide (v ∈ xs)) w) : C_slices_Contains sl v K w := by
  apply S_slices_Contains
  unfold F_slices_Contains
  refine slices_Index_spec hv hN (fun hno => ?_) (fun r hr hm => ?_)
  · rw [decide_eq_false hno] at h
    rw [decide_eq_false (by omega)]
    exact h
  · rw [decide_eq_true hm] at h
    rw [decide_eq_true hr]
    exact h

/-! ### Reverse -/
def RevQ (xs ys : List Int) (k : Nat) : Prop := ys.length = xs.length ∧ ∀ n : Nat, n < xs.length → ys[n]? = if n < k ∨ xs.length - 1 - k < n then xs[xs.length - 1 - n]? else xs[n]?
theorem slices_Reverse_spec {sl : Sl} {xs : List (Ty.int .i64).T} (s : Sp w0 Ω w) (i : Nat) (hi : Ω[i]? = some (own (.int .i64) sl xs)) (hN : xs.length ≤ 1000000000) {K : Unit → World → Prop} (h : ∀ w', Sp w0 (Ω.set i (own (.int .i64) sl xs.reverse)) w' → K () w') : C_slices_Reverse sl K w := by
  apply S_slices_Reverse
  unfold F_slices_Reverse
  have hl := (s.view i hi).len
  have s0 : Sp w0 (Ω.set i (own (.int .i64) sl xs)) w := by rw [setSame hi]; exact s
  refine arith_i64 (by omega) (by omega) ⟨fun x w => ∃ (k : Nat) (ys : List (Ty.int .i64).T), x.1 = (k : Int) ∧ x.2.1 = (xs.length : Int) - 1 - k ∧ 2 * k ≤ xs.length + 1 ∧ RevQ xs ys k ∧ Sp w0 (Ω.set i (own (.int .i64) sl ys)) w, fun x _ => ((xs.length : Int) - x.1).toNat, ⟨0, xs, rfl, by dsimp only; omega, by omega, ⟨rfl, fun n hn => ?_⟩, s0⟩, ?_⟩
  · split
    · omega
    · rfl
  clear s s0
  rintro ⟨x, y, _⟩ w1 ⟨k, ys, hx, hy, hk, ⟨hyl, hq⟩, s⟩ _
  dsimp only at hx hy ⊢
  subst hx hy
  have hgs : (Ω.set i (own (.int .i64) sl ys))[i]? = some (own (.int .i64) sl ys) := setGet hi
  refine gd_dec (fun hlt => ?_) (fun hge => ?_)
  · have hk1 : k < xs.length := by omega
    obtain ⟨a, ha⟩ : ∃ a, ys[k]? = some a := ⟨_, List.getElem?_eq_getElem (by omega)⟩
    obtain ⟨b, hb⟩ : ∃ b, ys[xs.length - 1 - k]? = some b := ⟨_, List.getElem?_eq_getElem (by omega)⟩
    have hak := hq k hk1
    rw [if_neg (by omega), ha] at hak
    have hbk := hq (xs.length - 1 - k) (by omega)
    rw [if_neg (by omega), hb] at hbk
    refine s.drawK fun w2 s => (s.view i hgs).idx (n := xs.length - 1 - k) (by omega) hb rfl fun q1 hq1 => ⟨b, hq1, (s.view i hgs).idx (n := k) rfl ha rfl fun q2 hq2 => ⟨a, hq2, ?_⟩⟩
    refine s.setI i hgs (n := k) (y := b) rfl (by omega) fun w3 s => ?_
    rw [List.set_set] at s
    refine s.setI i (setGet hi) (n := xs.length - 1 - k) (y := a) (by omega) (by rw [List.length_set]; omega) fun w4 s => ?_
    rw [List.set_set] at s
    refine arith_i64 (by omega) (by omega) (arith_i64 (by omega) (by omega) ⟨⟨k + 1, _, rfl, by omega, by omega, ⟨by rw [List.length_set, List.length_set]; exact hyl, fun n hn => ?_⟩, s⟩, by omega⟩)
    rw [List.getElem?_set, List.length_set]
    by_cases c1 : xs.length - 1 - k = n
    · rw [if_pos c1, if_pos (by omega), if_pos (by omega), hak]
      congr 1; omega
    · rw [if_neg c1, List.getElem?_set]
      by_cases c2 : k = n
      · rw [if_pos c2, if_pos (by omega), if_pos (by omega), hbk]
        congr 1; omega
      · rw [if_neg c2, hq n hn]
        by_cases c3 : n < k ∨ xs.length - 1 - k < n
        · rw [if_pos c3, if_pos (by omega)]
        · rw [if_neg c3, if_neg (by omega)]
  · have e : ys = xs.reverse := by
      refine List.ext_getElem? fun n => ?_
      by_cases hn : n < xs.length
      · rw [hq n hn, List.getElem?_reverse hn]
        by_cases c : n < k ∨ xs.length - 1 - k < n
        · rw [if_pos c]
        · rw [if_neg c]
          congr 1; omega
      · rw [List.getElem?_eq_none (by omega), List.getElem?_eq_none (by rw [List.length_reverse]; omega)]
    rw [e] at s
    exact h _ s

/-! ### Compact: what is in the list, without neighbours that are equal -/
theorem clear_run {t e : TypeId} {sl : Sl} {zs : List Int} (hu : P.underlying t = some (.slice e)) (hz : zeroOf P e = some (.int .i64 0)) {K : Unit → World → Prop} {ty : TypeId} {k : Nat} (s : Sp w0 Ω w) (i : Nat) (hi : Ω[i]? = some (own (.int .i64) sl zs)) (hk : k ≤ zs.length) {a' : Option Addr} {c' : Nat} (ha : a' = if sl.cap = k then sl.a else sl.a.map (·.add (k * 1)))
    (h : ∀ w', Sp w0 (Ω.set i (vw (.int .i64) ⟨sl.a, k, sl.cap⟩ (zs.take k))) w' → K () w') : runK P (.tup .unit) (Builtin.clear_ #[t] ty #[.slice a' (sl.len - k) c']) w K := by
  have o := s.own_ i hi
  have hl := o.view.len
  have hcl := o.cap
  have hvw : ∀ (w' : World), (∀ q, sl.a = some q → At w' q (flat (.int .i64) (zs.take k))) → View (.int .i64) w' ⟨sl.a, k, sl.cap⟩ (zs.take k) := fun w' hm => by
    refine ⟨by dsimp only; rw [List.length_take]; omega, hm, fun hne => ?_⟩
    exact o.view.ne fun e => hne (by rw [e]; simp)
  have hpre : ∀ q, sl.a = some q → At w q (flat (.int .i64) (zs.take k)) := fun q hq => by
    have := (o.view.mem q hq).sub (ds := flat (.int .i64) (zs.take k)) 0 ?_
    · rwa [Addr.add_zero'] at this
    · rw [List.drop_zero]
      have e : flat (.int .i64) zs = flat (.int .i64) (zs.take k) ++ flat (.int .i64) (zs.drop k) := by rw [← flat_append, List.take_append_drop]
      rw [e, List.take_left]
  by_cases hn : sl.len - k = 0
  · refine ⟨(), w, ?_, h w (s.weak i hi _ (fun B hP _ => ⟨B, ⟨hvw w hpre, fun b hb => hP.2 b ?_⟩, fun _ h => h⟩) (fun h => by cases h))⟩
    · rw [hn]
      unfold Builtin.clear_
      cases a' <;> simp [run_underlying hu, val, vals]
    · obtain ⟨q, hq, e⟩ := hb
      exact ⟨q, hq, e⟩
  · obtain ⟨q, hq⟩ : ∃ q, sl.a = some q := o.view.ne fun e => by rw [e] at hl; simp at hl; omega
    rw [hq, if_neg (by omega)] at ha
    simp only [Option.map_some] at ha
    have hcs : (Builtin.zeroCells #[Value.int .i64 0] (sl.len - k)).toList = flat (.int .i64) (List.replicate (sl.len - k) (0 : Int)) := by
      have h1 : Builtin.zeroCells #[Value.int .i64 0] (sl.len - k) = zrow #[Value.int .i64 0] ((sl.len - k) * 1) := zrow_eq _ _
      have h2 := zrow_flat (.int .i64) (0 : Int) (sl.len - k)
      have h3 : zrow #[Value.int .i64 0] ((sl.len - k) * 1) = (flat (.int .i64) (List.replicate (sl.len - k) (0 : Int))).toArray := h2
      rw [h1, h3]
    have hfl : (flat (.int .i64) (List.replicate (sl.len - k) (0 : Int))).length = sl.len - k := by rw [flat_len, List.length_replicate]; exact Nat.mul_one _
    have hw : Wr w (q.add (k * 1)) (flat (.int .i64) (List.replicate (sl.len - k) (0 : Int))).length := (o.wr q hq).sub _ _ (by rw [hfl]; show k * 1 + (sl.len - k) ≤ sl.cap * 1; omega)
    have hone : (flat (.int .i64) (List.replicate (sl.len - k) (0 : Int))).all Go.Den.one = true := all_one_flat (all_oneT (.int .i64) rfl) _
    obtain ⟨B, ⟨o2, hB⟩, hlt, back⟩ := s.open i hi rfl
    have hf := setCells_fr w (q.add (k * 1)) 0 (flat (.int .i64) (List.replicate (sl.len - k) (0 : Int)))
    rw [add_block] at hf
    have hbk : blk sl q.block := ⟨q, hq, rfl⟩
    refine ⟨(), setCells w (q.add (k * 1)) 0 (flat (.int .i64) (List.replicate (sl.len - k) (0 : Int))), ?_, h _ (back _ B _ ⟨hvw _ fun q' hq' => ?_, fun b hb => ?_⟩ (hf.mono fun b _ hb => hb ▸ hB _ hbk) (fun _ h => Or.inl h) fun b hb => by rw [setCells_size]; exact (hlt b hb).2)⟩
    · rw [ha]
      unfold Builtin.clear_
      obtain ⟨m, hm⟩ : ∃ m, sl.len - k = m + 1 := ⟨sl.len - k - 1, by omega⟩
      have hst := run_storeCells_wr (P := P) hw hone
      rw [hm] at hst hcs ⊢
      simp only [List.getElem?_toArray, List.getElem?_cons_zero, Sem.run_bind, run_underlying hu, Result.andThen_ok, run_zero' hz]
      have hc1 : (Value.int .i64 0).cells = #[Value.int .i64 0] := rfl
      rw [hc1, hcs, hst]
      simp [val, vals]
    · rw [hq] at hq'; cases hq'
      refine At.setOther (hpre q hq) fun _ => Or.inr ?_
      rw [add_off, flat_len, List.length_take]
      show q.off + min k zs.length * 1 ≤ q.off + k * 1
      omega
    · obtain ⟨q2, hq2, e⟩ := hb
      exact hB b ⟨q2, hq2, e⟩

theorem slK_tail {sz len cap l : Nat} {a : Option Addr} {lo : Int} {K : Sl → Prop} (hlo : lo = (l : Int)) (h1 : l ≤ len) (hc : len ≤ cap) (k : K ⟨if cap = l then a else a.map (·.add (l * sz)), len - l, cap - l⟩) : slK sz a len cap (some lo) none K := by
  subst hlo
  exact ⟨fun x e => (by cases e), fun x e => (by cases e; dsimp only; omega), k⟩
theorem slK_head {sz len cap h : Nat} {a : Option Addr} {hi : Int} {K : Sl → Prop} (hhi : hi = (h : Int)) (h1 : h ≤ len) (hc : len ≤ cap) (k : K ⟨a, h, cap⟩) : slK sz a len cap none (some hi) K := by
  subst hhi
  refine ⟨fun x e => (by cases e; omega), fun x e => (by cases e), ?_⟩
  have e : (if cap = 0 then a else a.map (·.add (0 * sz))) = a := by
    split
    · rfl
    · cases a with
      | none => rfl
      | some q => rw [Option.map_some, Nat.zero_mul, Addr.add_zero']
  show K ⟨(if cap = 0 then a else a.map (·.add (0 * sz))), h - 0, cap - 0⟩
  rw [e]; exact k
theorem View.tail {ty : Ty} {sl : Sl} {xs : List ty.T} {l : Nat} (v : View ty w sl xs) (hl : l ≤ xs.length) (hc : sl.cap ≠ l) : View ty w ⟨if sl.cap = l then sl.a else sl.a.map (·.add (l * ty.size)), sl.len - l, sl.cap - l⟩ (xs.drop l) := by
  rw [if_neg hc]
  refine ⟨by dsimp only; rw [List.length_drop, v.len], fun q hq => ?_, fun hne => ?_⟩
  · cases ha : sl.a with
    | none => rw [ha] at hq; cases hq
    | some a =>
      rw [ha] at hq
      simp only [Option.map_some, Option.some.injEq] at hq
      subst hq
      refine (v.mem a ha).sub _ ?_
      have e : flat ty xs = flat ty (xs.take l) ++ flat ty (xs.drop l) := by rw [← flat_append, List.take_append_drop]
      have hlen : (flat ty (xs.take l)).length = l * ty.size := by rw [flat_len, List.length_take, Nat.min_eq_left hl]
      rw [e, ← hlen, List.drop_left, List.take_length]
  · obtain ⟨q, hq⟩ := v.ne fun e => hne (by rw [e]; simp)
    exact ⟨_, by rw [hq]; rfl⟩

theorem slices_Compact_spec {sl : Sl} {xs : List (Ty.int .i64).T} (s : Sp w0 Ω w) (i : Nat) (hi : Ω[i]? = some (own (.int .i64) sl xs)) (hN : xs.length ≤ 1000000000) {K : Sl → World → Prop}
    (h : ∀ s' (ys : List (Ty.int .i64).T) w', (∀ z, z ∈ ys ↔ z ∈ xs) → ys.length ≤ xs.length → Sp w0 (Ω.set i (vw (.int .i64) s' ys)) w' → K s' w') : C_slices_Compact sl K w := by
  apply S_slices_Compact
  unfold F_slices_Compact
  have o := s.own_ i hi
  have hl := o.view.len
  have hcap := o.cap
  have whole : ∀ w', Sp w0 Ω w' → K sl w' := fun w' s => h sl xs w' (fun _ => Iff.rfl) (Nat.le_refl _) (s.freeze i hi)
  refine gd_dec (fun c => whole _ s) (fun c => ?_)
  refine loop_from 1 (fun x => x.1) (xs.length - 1) (fun n x w => Sp w0 Ω w) rfl s ?_
  clear s
  rintro n ⟨x, _⟩ w1 hn hx s _
  dsimp only at hx ⊢
  subst hx
  refine gd_dec (fun hlt => ?_) (fun hge => whole _ s)
  have hn' : n + 1 < xs.length := by omega
  obtain ⟨a, ha⟩ : ∃ a, xs[n + 1]? = some a := ⟨_, List.getElem?_eq_getElem hn'⟩
  obtain ⟨b, hb⟩ : ∃ b, xs[n]? = some b := ⟨_, List.getElem?_eq_getElem (by omega)⟩
  refine s.drawK fun w2 s => (s.view i hi).idx (n := n + 1) (by omega) ha rfl fun q1 hq1 => ⟨a, hq1, arith_i64 (by omega) (by omega) ((s.view i hi).idx (n := n) (by omega) hb rfl fun q2 hq2 => ⟨b, hq2, gd_eq (fun e => ?_) (fun e => arith_i64 (by omega) (by omega) (loop_fx (by omega) s))⟩)⟩
  subst e
  refine slK_tail (l := n + 1) (by omega) (by omega) hcap ?_
  have hcn : sl.cap ≠ n + 1 := by omega
  have v8 : ∀ w' (ys : List (Ty.int .i64).T), ys.length = xs.length → View (.int .i64) w' sl ys → View (.int .i64) w' ⟨if sl.cap = n + 1 then sl.a else sl.a.map (·.add ((n + 1) * 1)), sl.len - (n + 1), sl.cap - (n + 1)⟩ (ys.drop (n + 1)) := fun w' ys hy v => View.tail v (l := n + 1) (by omega) hcn
  generalize hs8 : (⟨if sl.cap = n + 1 then sl.a else sl.a.map (·.add ((n + 1) * 1)), sl.len - (n + 1), sl.cap - (n + 1)⟩ : Sl) = s8 at v8 ⊢
  have hl8 : s8.len = xs.length - (n + 1) := by rw [← hs8]; dsimp only; omega
  have s0 : Sp w0 (Ω.set i (own (.int .i64) sl xs)) w2 := by rw [setSame hi]; exact s
  refine loop_from 1 (fun x => x.2.1) (xs.length - (n + 1) - 1) (fun r z w => ∃ (k : Nat) (ys : List (Ty.int .i64).T), z.1 = (k : Int) ∧ n + 1 ≤ k ∧ k ≤ n + 1 + r ∧ ys.length = xs.length ∧ (∀ j, n + 1 + r ≤ j → ys[j]? = xs[j]?) ∧ (∀ z, z ∈ ys.take k ↔ z ∈ xs.take (n + 2 + r)) ∧ Sp w0 (Ω.set i (own (.int .i64) sl ys)) w) rfl
    ⟨n + 1, xs, by dsimp only; omega, Nat.le_refl _, Nat.le_refl _, rfl, fun _ _ => rfl, fun z => ?_, s0⟩ ?_
  · rw [show n + 2 + 0 = (n + 1) + 1 by omega, List.take_add_one (i := n + 1), ha]
    simp only [Option.toList_some, List.mem_append, List.mem_singleton]
    refine ⟨Or.inl, fun h => h.elim id fun e => ?_⟩
    subst e
    exact List.mem_of_getElem? (i := n) (by rw [List.getElem?_take_of_lt (by omega)]; exact hb)
  clear s s0
  rintro r ⟨y, z, _⟩ w3 hr hz ⟨k, ys, hy, hk1, hk2, hyl, hsuf, hmem, s⟩ _
  dsimp only at hy hz ⊢
  subst hy hz
  refine gd_dec (fun hlt2 => ?_) (fun hge2 => ?_)
  · have hr' : n + 2 + r < xs.length := by omega
    obtain ⟨u, hu⟩ : ∃ u, xs[n + 2 + r]? = some u := ⟨_, List.getElem?_eq_getElem hr'⟩
    obtain ⟨v, hvv⟩ : ∃ v, xs[n + 1 + r]? = some v := ⟨_, List.getElem?_eq_getElem (by omega)⟩
    have gu : (ys.drop (n + 1))[1 + r]? = some u := by rw [List.getElem?_drop, hsuf _ (by omega), ← hu]; congr 1; omega
    have gv : (ys.drop (n + 1))[r]? = some v := by rw [List.getElem?_drop, hsuf _ (by omega), ← hvv]
    have htk : xs.take (n + 2 + (r + 1)) = xs.take (n + 2 + r) ++ [u] := by rw [show n + 2 + (r + 1) = (n + 2 + r) + 1 by omega, List.take_add_one, hu]; rfl
    have vy := fun (w' : World) (s : Sp w0 (Ω.set i (own (.int .i64) sl ys)) w') => v8 w' ys hyl (s.view i (setGet hi))
    refine ⟨fun z w => ∃ (k : Nat) (ys : List (Ty.int .i64).T), z.1 = (k : Int) ∧ n + 1 ≤ k ∧ k ≤ n + 1 + (r + 1) ∧ ys.length = xs.length ∧ (∀ j, n + 1 + (r + 1) ≤ j → ys[j]? = xs[j]?) ∧ (∀ z, z ∈ ys.take k ↔ z ∈ xs.take (n + 2 + (r + 1))) ∧ Sp w0 (Ω.set i (own (.int .i64) sl ys)) w, ?_, ?_⟩
    · refine s.drawK fun w5 s => (vy _ s).idx (n := 1 + r) (by omega) gu rfl fun q1 hq1 => ⟨u, hq1, arith_i64 (by omega) (by omega) ((vy _ s).idx (n := r) (by omega) gv rfl fun q2 hq2 => ⟨v, hq2, gd_ne (fun c => ?_) (fun c => ?_)⟩)⟩
      · refine (vy _ s).idx (n := 1 + r) (by omega) gu rfl fun q3 hq3 => ⟨u, hq3, s.setI i (setGet hi) (n := k) (y := u) rfl (by omega) fun w6 s => ?_⟩
        rw [List.set_set] at s
        refine arith_i64 (by omega) (by omega) ⟨k + 1, ys.set k u, rfl, by omega, by omega, by rw [List.length_set]; exact hyl, fun j hj => ?_, fun z => ?_, s⟩
        · rw [List.getElem?_set, if_neg (by omega)]
          exact hsuf j (by omega)
        · rw [List.take_add_one, List.getElem?_set, if_pos rfl, if_pos (by omega), htk, List.take_set_of_le (Nat.le_refl _)]
          simp only [Option.toList_some, List.mem_append, hmem z]
      · subst c
        refine ⟨k, ys, rfl, hk1, by omega, hyl, fun j hj => hsuf j (by omega), fun z => ?_, s⟩
        rw [htk, hmem z, List.mem_append, List.mem_singleton]
        refine ⟨Or.inl, fun h => h.elim id fun e => ?_⟩
        subst e
        exact List.mem_of_getElem? (i := n + 1 + r) (by rw [List.getElem?_take_of_lt (by omega)]; exact hvv)
    · rintro ⟨z, _⟩ w6 ⟨k2, ys2, hz, h1, h2, h3, h4, h5, s⟩ _
      dsimp only at hz ⊢
      subst hz
      exact arith_i64 (by omega) (by omega) (loop_fx (by omega) ⟨k2, ys2, rfl, h1, h2, h3, h4, h5, s⟩)
  · have hfin : n + 2 + r = xs.length := by omega
    rw [hfin, List.take_length] at hmem
    refine slK_tail (l := k) rfl (by omega) hcap ?_
    refine clear_run (e := t_int) (k := k) (zs := ys) (by kernel_rfl) (by kernel_rfl) s i (setGet hi) (by omega) rfl fun w7 s => ?_
    rw [List.set_set] at s
    exact slK_head (h := k) rfl (by omega) hcap (h _ _ w7 hmem (by rw [List.length_take]; omega) s)

end Go.Proofs.YtnmgjpcooncjlaaGreat

/- What the packages length, modular and digest compute, from their texts. -/
set_option linter.unusedVariables false
set_option linter.unusedSimpArgs false
namespace Go.Proofs.YtnmgjpcooncjlaaGreat
open Go.Den

/-! ### Numbers -/
theorem fdiv_pow (x : Int) (k : Nat) : Int.fdiv x (2 ^ k) = x / 2 ^ k := Int.fdiv_eq_ediv_of_nonneg x (by exact Int.pow_nonneg (by decide))
theorem fdiv61 (x : Int) : Int.fdiv x (2 ^ min (Int.toNat (61 : Int)) (IntKind.bits .u64)) = x / 2305843009213693952 := by
  rw [show min (Int.toNat (61 : Int)) (IntKind.bits .u64) = 61 from rfl, fdiv_pow]; rfl
theorem fdiv32 (x : Int) : Int.fdiv x (2 ^ min (Int.toNat (32 : Int)) (IntKind.bits .u64)) = x / 4294967296 := by
  rw [show min (Int.toNat (32 : Int)) (IntKind.bits .u64) = 32 from rfl, fdiv_pow]; rfl
theorem mask (x : Int) (k : Nat) (m : Int) (hk : k ≤ 64) (hm : m = 2 ^ k - 1) (h0 : 0 ≤ x) (h1 : x < 18446744073709551616) :
    (((BitVec.ofInt (IntKind.bits .u64) x &&& BitVec.ofInt (IntKind.bits .u64) m).toNat : Nat) : Int) = x % 2 ^ k := by
  obtain ⟨n, rfl⟩ := Int.eq_ofNat_of_zero_le h0
  have hb : IntKind.bits .u64 = 64 := rfl
  rw [hb, BitVec.toNat_and, BitVec.toNat_ofInt, BitVec.toNat_ofInt]
  have e1 : ((n : Int) % ((2 ^ 64 : Nat) : Int)).toNat = n := by
    have : ((2 ^ 64 : Nat) : Int) = 18446744073709551616 := by decide
    rw [this]; omega
  have e2 : (m % ((2 ^ 64 : Nat) : Int)).toNat = 2 ^ k - 1 := by
    have h64 : ((2 ^ 64 : Nat) : Int) = 18446744073709551616 := by decide
    have hle : (2 : Nat) ^ k ≤ 2 ^ 64 := Nat.pow_le_pow_right (by decide) hk
    have hpos : 0 < (2 : Nat) ^ k := Nat.pow_pos (by decide)
    have hc : ((2 : Int) ^ k) = ((2 ^ k : Nat) : Int) := by simp
    rw [hm, hc, h64]
    have : (2 : Nat) ^ 64 = 18446744073709551616 := by decide
    omega
  rw [e1, e2, Nat.and_two_pow_sub_one_eq_mod]
  simp
theorem mask61 (x : Int) (h0 : 0 ≤ x) (h1 : x < 18446744073709551616) :
    (((BitVec.ofInt (IntKind.bits .u64) x &&& BitVec.ofInt (IntKind.bits .u64) (2305843009213693951 : Int)).toNat : Nat) : Int) = x % 2305843009213693952 :=
  mask x 61 _ (by decide) (by decide) h0 h1
theorem mask32 (x : Int) (h0 : 0 ≤ x) (h1 : x < 18446744073709551616) :
    (((BitVec.ofInt (IntKind.bits .u64) x &&& BitVec.ofInt (IntKind.bits .u64) (4294967295 : Int)).toNat : Nat) : Int) = x % 4294967296 :=
  mask x 32 _ (by decide) (by decide) h0 h1

variable {w0 : World}

/-! ### length -/
theorem length_Valid_spec {n : Int} {K : Bool → World → Prop} (h : K (decide (0 ≤ n ∧ n ≤ 1152921504606846976)) w0) : C_length_Valid n K w0 := by
  apply S_length_Valid
  unfold F_length_Valid
  refine gd_dec (fun h1 => ?_) (fun h1 => ?_)
  · have : decide (n ≤ 1152921504606846976) = decide (0 ≤ n ∧ n ≤ 1152921504606846976) := by simp [h1]
    rw [this]; exact h
  · have : false = decide (0 ≤ n ∧ n ≤ 1152921504606846976) := by simp [h1]
    rw [this]; exact h

def errV (n : Int) : Value := .iface t_api_Errno (.int .i64 n)

/-- for lengths -/
theorem length_Add_spec {a b : Int} {K : Int × Value → World → Prop} (ha : 0 ≤ a ∧ a ≤ 1152921504606846976) (hb : 0 ≤ b ∧ b ≤ 1152921504606846976)
    (h1 : a + b ≤ 1152921504606846976 → K (a + b, .nilIface) w0) (h2 : 1152921504606846976 < a + b → K (0, errV 2) w0) : C_length_Add a b K w0 := by
  apply S_length_Add
  unfold F_length_Add
  refine ⟨fun x w => x.1 = false ∧ w = w0, ?_, ?_⟩
  · refine length_Valid_spec ?_
    rw [decide_eq_true ha]
    refine gd_f rfl (length_Valid_spec ?_)
    rw [decide_eq_true hb]
    exact ⟨rfl, rfl⟩
  · rintro ⟨b', _⟩ w ⟨rfl, rfl⟩ _
    refine gd_f rfl (arith_i64 (by omega) (by omega) (gd_dec (fun h => h2 (by omega)) (fun h => arith_i64 (by omega) (by omega) (h1 (by omega)))))

theorem length_Mul_spec {a k : Int} {K : Int × Value → World → Prop} (ha : 0 ≤ a ∧ a ≤ 1152921504606846976) (hk : 0 ≤ k)
    (h1 : a * k ≤ 1152921504606846976 → K (a * k, .nilIface) w0) (h2 : 1152921504606846976 < a * k → K (0, errV 2) w0) : C_length_Mul a k K w0 := by
  apply S_length_Mul
  unfold F_length_Mul
  refine ⟨fun x w => x.1 = false ∧ w = w0, ?_, ?_⟩
  · refine length_Valid_spec ?_
    rw [decide_eq_true ha]
    exact gd_f rfl ⟨decide_eq_false (by omega), rfl⟩
  · rintro ⟨b', _⟩ w ⟨rfl, rfl⟩ _
    refine gd_f rfl (gd_eq (fun h => ?_) (fun h => ?_))
    · subst h
      have := h1 (by simp)
      simpa using this
    · have hp : 0 < a := by omega
      have hd : Int.tdiv 1152921504606846976 a = 1152921504606846976 / a := Int.tdiv_eq_ediv_of_nonneg (by decide)
      have hb : 0 ≤ 1152921504606846976 / a ∧ 1152921504606846976 / a ≤ 1152921504606846976 := ⟨Int.ediv_nonneg (by decide) (by omega), Int.ediv_le_self _ (by decide)⟩
      have hiff : 1152921504606846976 / a < k ↔ 1152921504606846976 < a * k := by
        rw [Int.mul_comm]; exact Int.ediv_lt_iff_lt_mul hp
      refine ⟨h, ?_⟩
      rw [hd]
      refine arith_i64 (by omega) (by omega) (gd_dec (fun h => h2 (hiff.1 h)) (fun h => ?_))
      have hle : a * k ≤ 1152921504606846976 := by
        have := mt hiff.2 h; omega
      have hnn : 0 ≤ a * k := Int.mul_nonneg ha.1 hk
      exact arith_i64 (by omega) (by omega) (h1 hle)

theorem length_Clip_spec {n lo hi : Int} {K : Int → World → Prop} (h : K (if n < lo then lo else if hi < n then hi else n) w0) : C_length_Clip n lo hi K w0 := by
  apply S_length_Clip
  unfold F_length_Clip
  refine gd_dec (fun h1 => ?_) (fun h1 => gd_dec (fun h2 => ?_) (fun h2 => ?_))
  · rwa [if_pos h1] at h
  · rwa [if_neg h1, if_pos h2] at h
  · rwa [if_neg h1, if_neg h2] at h

/-! ### modular: numbers modulo 2^61 - 1 -/
theorem reduce_val (x : Int) (h0 : 0 ≤ x) (h1 : x < 18446744073709551616) :
    (if 2305843009213693951 ≤ x % 2305843009213693952 + x / 2305843009213693952 then x % 2305843009213693952 + x / 2305843009213693952 - 2305843009213693951 else x % 2305843009213693952 + x / 2305843009213693952) = x % 2305843009213693951 := by
  split <;> omega

theorem modular_Reduce_spec {x : Int} {K : Int → World → Prop} (h0 : 0 ≤ x) (h1 : x < 18446744073709551616) (h : K (x % 2305843009213693951) w0) : C_modular_Reduce x K w0 := by
  apply S_modular_Reduce
  unfold F_modular_Reduce
  rw [mask61 x h0 h1, fdiv61]
  refine arith_u64 (by omega) (by omega) ⟨by decide, letZ_mk (arith_u64 (by omega) (by omega) ?_)⟩
  have hv := reduce_val x h0 h1
  refine ⟨fun y w => y.1 = x % 2305843009213693951 ∧ w = w0, gd_dec (fun h2 => ?_) (fun h2 => ?_), ?_⟩
  · rw [if_pos h2] at hv
    exact arith_u64 (by omega) (by omega) ⟨hv, rfl⟩
  · rw [if_neg h2] at hv
    exact ⟨hv, rfl⟩
  · rintro ⟨y, _⟩ w ⟨rfl, rfl⟩ _
    exact h

theorem modular_Add_spec {a b : Int} {K : Int → World → Prop} (ha : 0 ≤ a ∧ a < 18446744073709551616) (hb : 0 ≤ b ∧ b < 18446744073709551616) (h : K ((a + b) % 2305843009213693951) w0) : C_modular_Add a b K w0 := by
  apply S_modular_Add
  unfold F_modular_Add
  refine modular_Reduce_spec ha.1 ha.2 (modular_Reduce_spec hb.1 hb.2 (arith_u64 (by omega) (by omega) (modular_Reduce_spec (by omega) (by omega) ?_)))
  rwa [← Int.add_emod]

theorem mul_bound {a b A B : Int} (ha : 0 ≤ a) (hA : a ≤ A) (hb : 0 ≤ b) (hB : b ≤ B) : 0 ≤ a * b ∧ a * b ≤ A * B :=
  ⟨Int.mul_nonneg ha hb, Int.mul_le_mul hA hB hb (by omega)⟩

theorem mul64_core (a b c d : Int) (ha : 0 ≤ a ∧ a ≤ 4294967295 * 4294967295) (hb : 0 ≤ b ∧ b ≤ 4294967295 * 4294967295) (hc : 0 ≤ c ∧ c ≤ 4294967295 * 4294967295) (hd : 0 ≤ d ∧ d ≤ 4294967295 * 4294967295) :
    (0 ≤ a ∧ a < 18446744073709551616) ∧ (0 ≤ b ∧ b < 18446744073709551616) ∧ (0 ≤ b + a / 4294967296 ∧ b + a / 4294967296 < 18446744073709551616) ∧ (0 ≤ c ∧ c < 18446744073709551616) ∧
    (0 ≤ (b + a / 4294967296) % 4294967296 + c ∧ (b + a / 4294967296) % 4294967296 + c < 18446744073709551616) ∧ (0 ≤ d ∧ d < 18446744073709551616) ∧ d + (b + a / 4294967296) / 4294967296 < 18446744073709551616 ∧
    d + (b + a / 4294967296) / 4294967296 + ((b + a / 4294967296) % 4294967296 + c) / 4294967296 < 18446744073709551616 ∧
    d + (b + a / 4294967296) / 4294967296 + ((b + a / 4294967296) % 4294967296 + c) / 4294967296 = (d * 18446744073709551616 + b * 4294967296 + c * 4294967296 + a) / 18446744073709551616 := by
  refine ⟨by omega, by omega, by omega, by omega, by omega, by omega, by omega, by omega, by omega⟩

/-- the product of two words in two words -/
theorem mul64_val (x y : Int) (hx : 0 ≤ x ∧ x < 18446744073709551616) (hy : 0 ≤ y ∧ y < 18446744073709551616) :
    (0 ≤ (x % 4294967296 * (y % 4294967296)) ∧ (x % 4294967296 * (y % 4294967296)) < 18446744073709551616) ∧ (0 ≤ (x / 4294967296 * (y % 4294967296)) ∧ (x / 4294967296 * (y % 4294967296)) < 18446744073709551616) ∧ (0 ≤ (x / 4294967296 * (y % 4294967296)) + (x % 4294967296 * (y % 4294967296)) / 4294967296 ∧ (x / 4294967296 * (y % 4294967296)) + (x % 4294967296 * (y % 4294967296)) / 4294967296 < 18446744073709551616) ∧ (0 ≤ (x % 4294967296 * (y / 4294967296)) ∧ (x % 4294967296 * (y / 4294967296)) < 18446744073709551616) ∧
    (0 ≤ ((x / 4294967296 * (y % 4294967296)) + (x % 4294967296 * (y % 4294967296)) / 4294967296) % 4294967296 + (x % 4294967296 * (y / 4294967296)) ∧ ((x / 4294967296 * (y % 4294967296)) + (x % 4294967296 * (y % 4294967296)) / 4294967296) % 4294967296 + (x % 4294967296 * (y / 4294967296)) < 18446744073709551616) ∧ (0 ≤ (x / 4294967296 * (y / 4294967296)) ∧ (x / 4294967296 * (y / 4294967296)) < 18446744073709551616) ∧ (x / 4294967296 * (y / 4294967296)) + ((x / 4294967296 * (y % 4294967296)) + (x % 4294967296 * (y % 4294967296)) / 4294967296) / 4294967296 < 18446744073709551616 ∧
    (x / 4294967296 * (y / 4294967296)) + ((x / 4294967296 * (y % 4294967296)) + (x % 4294967296 * (y % 4294967296)) / 4294967296) / 4294967296 + (((x / 4294967296 * (y % 4294967296)) + (x % 4294967296 * (y % 4294967296)) / 4294967296) % 4294967296 + (x % 4294967296 * (y / 4294967296))) / 4294967296 < 18446744073709551616 ∧
    (x / 4294967296 * (y / 4294967296)) + ((x / 4294967296 * (y % 4294967296)) + (x % 4294967296 * (y % 4294967296)) / 4294967296) / 4294967296 + (((x / 4294967296 * (y % 4294967296)) + (x % 4294967296 * (y % 4294967296)) / 4294967296) % 4294967296 + (x % 4294967296 * (y / 4294967296))) / 4294967296 = x * y / 18446744073709551616 := by
  have hx0 : 0 ≤ x % 4294967296 ∧ x % 4294967296 ≤ 4294967295 := by omega
  have hx1 : 0 ≤ x / 4294967296 ∧ x / 4294967296 ≤ 4294967295 := by omega
  have hy0 : 0 ≤ y % 4294967296 ∧ y % 4294967296 ≤ 4294967295 := by omega
  have hy1 : 0 ≤ y / 4294967296 ∧ y / 4294967296 ≤ 4294967295 := by omega
  have ex : x = x / 4294967296 * 4294967296 + x % 4294967296 := by omega
  have ey : y = y / 4294967296 * 4294967296 + y % 4294967296 := by omega
  have e : ∀ x0 x1 y0 y1 : Int, (x1 * 4294967296 + x0) * (y1 * 4294967296 + y0) = (x1 * y1) * 18446744073709551616 + (x1 * y0) * 4294967296 + (x0 * y1) * 4294967296 + x0 * y0 := by
    intro x0 x1 y0 y1
    simp only [Int.add_mul, Int.mul_add]
    have r1 : x1 * 4294967296 * (y1 * 4294967296) = x1 * y1 * 18446744073709551616 := by
      rw [Int.mul_assoc, Int.mul_left_comm 4294967296 y1, ← Int.mul_assoc x1]; rfl
    have r2 : x1 * 4294967296 * y0 = x1 * y0 * 4294967296 := by rw [Int.mul_assoc, Int.mul_comm 4294967296 y0, ← Int.mul_assoc]
    have r3 : x0 * (y1 * 4294967296) = x0 * y1 * 4294967296 := by rw [← Int.mul_assoc]
    rw [r1, r2, r3]; omega
  have exy : x * y = (x / 4294967296 * (y / 4294967296)) * 18446744073709551616 + (x / 4294967296 * (y % 4294967296)) * 4294967296 + (x % 4294967296 * (y / 4294967296)) * 4294967296 + x % 4294967296 * (y % 4294967296) := by
    rw [← e, ← ex, ← ey]
  rw [exy]
  exact mul64_core _ _ _ _ (mul_bound hx0.1 hx0.2 hy0.1 hy0.2) (mul_bound hx1.1 hx1.2 hy0.1 hy0.2) (mul_bound hx0.1 hx0.2 hy1.1 hy1.2) (mul_bound hx1.1 hx1.2 hy1.1 hy1.2)

theorem bits_Mul64_spec {x y : Int} {K : Int × Int → World → Prop} (hx : 0 ≤ x ∧ x < 18446744073709551616) (hy : 0 ≤ y ∧ y < 18446744073709551616)
    (h : K (x * y / 18446744073709551616, x * y % 18446744073709551616) w0) : C_bits_Mul64 x y K w0 := by
  apply S_bits_Mul64
  unfold F_bits_Mul64
  obtain ⟨b1, b2, b3, b4, b5, b6, b7, b8, e⟩ := mul64_val x y hx hy
  rw [mask32 x hx.1 hx.2, mask32 y hy.1 hy.2]
  simp only [fdiv32]
  refine arith_u64 (by omega) (by omega) ⟨by decide, letZ_mk (arith_u64 (by omega) (by omega) ⟨by decide, letZ_mk (arith_u64 (by omega) (by omega) (arith_u64 (by omega) (by omega) ⟨by decide, letZ_mk (arith_u64 (by omega) (by omega) ?_)⟩))⟩)⟩
  rw [mask32 _ b3.1 b3.2]
  refine arith_u64 (by omega) (by omega) ⟨by decide, letZ_mk (arith_u64 (by omega) (by omega) (arith_u64 (by omega) (by omega) (arith_u64 (by omega) (by omega) (arith_u64 (by omega) (by omega) ⟨by decide, letZ_mk (arith_u64 (by omega) (by omega) (arith_u64' ?_))⟩))))⟩
  rw [e]; exact h

theorem modular_Mul_spec {a b : Int} {K : Int → World → Prop} (ha : 0 ≤ a ∧ a < 18446744073709551616) (hb : 0 ≤ b ∧ b < 18446744073709551616) (h : K ((a * b) % 2305843009213693951) w0) : C_modular_Mul a b K w0 := by
  apply S_modular_Mul
  unfold F_modular_Mul
  refine modular_Reduce_spec ha.1 ha.2 (modular_Reduce_spec hb.1 hb.2 (bits_Mul64_spec (by omega) (by omega) ?_))
  have hm := mul_bound (a := a % 2305843009213693951) (b := b % 2305843009213693951) (A := 2305843009213693950) (B := 2305843009213693950) (by omega) (by omega) (by omega) (by omega)
  have e : a % 2305843009213693951 * (b % 2305843009213693951) % 2305843009213693951 = a * b % 2305843009213693951 := (Int.mul_emod a b _).symm
  generalize a % 2305843009213693951 * (b % 2305843009213693951) = p at *
  have hsh : (2 : Int) ^ min (Int.toNat (3 : Int)) (IntKind.bits .u64) = 8 := rfl
  rw [hsh, mask61 _ (by omega) (by omega), fdiv61]
  dsimp only
  refine ⟨by decide, arith_u64 (by omega) (by omega) ⟨by decide, letZ_mk (arith_u64 (by omega) (by omega) (arith_u64 (by omega) (by omega) (arith_u64 (by omega) (by omega) (modular_Reduce_spec (by omega) (by omega) ?_))))⟩⟩
  have : (p / 18446744073709551616 * 8 + p % 18446744073709551616 / 2305843009213693952 + p % 18446744073709551616 % 2305843009213693952) % 2305843009213693951 = a * b % 2305843009213693951 := by
    rw [← e]; omega
  rw [this]; exact h

theorem pow_step (r a : Int) (m : Nat) (P : Int) : (r * a ^ m) % P = (if m % 2 = 1 then r * a % P else r) * ((a * a) % P) ^ (m / 2) % P := by
  have hm : m = 2 * (m / 2) + m % 2 := by omega
  have e1 : a ^ m = a ^ (m % 2) * (a * a) ^ (m / 2) := by
    conv => lhs; rw [hm]
    have ea : a ^ 2 = a * a := by rw [Int.pow_succ, Int.pow_succ, Int.pow_zero, Int.one_mul]
    rw [Int.pow_add, Int.pow_mul, Int.mul_comm, ea]
  have e2 : ∀ k : Nat, ((a * a) % P) ^ k % P = (a * a) ^ k % P := by
    intro k
    induction k with
    | zero => simp
    | succ k ih => rw [Int.pow_succ, Int.pow_succ, Int.mul_emod, ih, Int.emod_emod_of_dvd _ (Int.dvd_refl P), ← Int.mul_emod]
  rcases Nat.mod_two_eq_zero_or_one m with h | h
  · rw [e1, h, if_neg (by decide)]
    rw [Int.mul_emod r (((a * a) % P) ^ (m / 2)), e2, ← Int.mul_emod]
    simp
  · rw [e1, h, if_pos rfl]
    rw [Int.mul_emod (r * a % P), e2, Int.emod_emod_of_dvd _ (Int.dvd_refl P), ← Int.mul_emod]
    rw [Int.pow_succ, Int.pow_zero, Int.one_mul, Int.mul_assoc]

theorem modular_Pow_spec {a n : Int} {K : Int → World → Prop} (ha : 0 ≤ a ∧ a < 18446744073709551616) (hn : 0 ≤ n ∧ n < 18446744073709551616) (h : K (a ^ n.toNat % 2305843009213693951) w0) : C_modular_Pow a n K w0 := by
  apply S_modular_Pow
  unfold F_modular_Pow
  refine modular_Reduce_spec ha.1 ha.2 ?_
  refine ⟨fun x w => w = w0 ∧ (0 ≤ x.1 ∧ x.1 < 2305843009213693951) ∧ (0 ≤ x.2.1 ∧ x.2.1 < 18446744073709551616) ∧ (0 ≤ x.2.2.1 ∧ x.2.2.1 < 2305843009213693951) ∧ x.2.2.1 * x.1 ^ x.2.1.toNat % 2305843009213693951 = a ^ n.toNat % 2305843009213693951,
    fun x _ => x.2.1.toNat, ?_, ?_⟩
  · refine ⟨rfl, by dsimp only; omega, hn, ⟨by dsimp only; omega, by dsimp only; omega⟩, ?_⟩
    dsimp only
    rw [Int.one_mul]
    generalize n.toNat = k
    induction k with
    | zero => simp
    | succ k ih => rw [Int.pow_succ, Int.pow_succ, Int.mul_emod, ih, Int.emod_emod_of_dvd _ (Int.dvd_refl _), ← Int.mul_emod]
  · rintro ⟨b, m, r, _⟩ w ⟨hw, hb, hm, hr, e⟩ _
    subst hw
    dsimp only at hb hm hr e ⊢
    refine gd_dec (fun hpos => ?_) (fun hpos => ?_)
    · refine ⟨fun y w' => y.1 = (if m.toNat % 2 = 1 then r * b % 2305843009213693951 else r) ∧ w' = w, ⟨by decide, letZ_mk ?_⟩, ?_⟩
      · rw [Int.tmod_eq_emod_of_nonneg hm.1]
        refine gd_eq (fun h1 => ?_) (fun h1 => ?_)
        · exact modular_Mul_spec (by omega) (by omega) ⟨by rw [if_pos (by omega)], rfl⟩
        · exact ⟨by rw [if_neg (by omega)], rfl⟩
      · rintro ⟨y, _⟩ w ⟨rfl, rfl⟩ _
        refine modular_Mul_spec (by omega) (by omega) ⟨by decide, ?_⟩
        rw [Int.tdiv_eq_ediv_of_nonneg hm.1]
        refine arith_u64 (by omega) (by omega) ⟨⟨rfl, by omega, by omega, ?_, ?_⟩, ?_⟩
        · dsimp only; split <;> omega
        · rw [← e, pow_step r b m.toNat]
          congr 2
          rw [show (m / 2).toNat = m.toNat / 2 by omega]
        · omega
    · have : m = 0 := by omega
      subst this
      simp only [Int.toNat_zero, Int.pow_zero, Int.mul_one] at e
      rw [Int.emod_eq_of_lt hr.1 hr.2] at e
      rw [e]; exact h


/-! ### digest -/
abbrev PP : Int := 2305843009213693951
def dJoin (a b : Int × Int) : Int × Int := ((a.1 * b.2 + b.1) % PP, a.2 * b.2 % PP)
def dUnit : Int × Int := (0, 1)
def dLetter (b : Int) : Int × Int := (b + 1, 1103515245)
def dNat (d : Int × Int) : Nat → Int × Int
  | 0 => dUnit
  | k + 1 => dJoin (dNat d k) d
def dOK (d : Int × Int) : Prop := (0 ≤ d.1 ∧ d.1 < PP) ∧ (0 ≤ d.2 ∧ d.2 < PP)
theorem dOK_join (a b : Int × Int) : dOK (dJoin a b) := ⟨⟨Int.emod_nonneg _ (by decide), Int.emod_lt_of_pos _ (by decide)⟩, ⟨Int.emod_nonneg _ (by decide), Int.emod_lt_of_pos _ (by decide)⟩⟩
theorem dOK_unit : dOK dUnit := ⟨⟨by decide, by decide⟩, ⟨by decide, by decide⟩⟩
theorem dOK_nat (d : Int × Int) : ∀ k, dOK (dNat d k)
  | 0 => dOK_unit
  | _ + 1 => dOK_join _ _
theorem dOK_letter {b : Int} (h : 0 ≤ b ∧ b < 256) : dOK (dLetter b) := ⟨⟨by simp only [dLetter]; omega, by simp only [dLetter, PP]; omega⟩, ⟨by simp only [dLetter]; omega, by simp only [dLetter, PP]; omega⟩⟩

theorem emod_mul_add (x y z P : Int) : (x % P * y + z) % P = (x * y + z) % P := by
  rw [Int.add_emod, Int.mul_emod, Int.emod_emod_of_dvd _ (Int.dvd_refl P), ← Int.mul_emod, ← Int.add_emod]
theorem emod_mul' (x y P : Int) : x % P * y % P = x * y % P := by
  rw [Int.mul_emod, Int.emod_emod_of_dvd _ (Int.dvd_refl P), ← Int.mul_emod]
theorem emod_mul_r (x y P : Int) : x * (y % P) % P = x * y % P := by
  rw [Int.mul_emod, Int.emod_emod_of_dvd _ (Int.dvd_refl P), ← Int.mul_emod]

theorem dJoin_assoc (a b c : Int × Int) : dJoin (dJoin a b) c = dJoin a (dJoin b c) := by
  unfold dJoin
  simp only [Prod.mk.injEq]
  constructor
  · rw [emod_mul_add]
    have h0 : (a.1 * (b.2 * c.2 % PP) + (b.1 * c.2 + c.1) % PP) % PP = (a.1 * (b.2 * c.2) + (b.1 * c.2 + c.1) % PP) % PP := by
      rw [Int.add_emod (a.1 * _), emod_mul_r, ← Int.add_emod]
    rw [h0]
    have e : (a.1 * b.2 + b.1) * c.2 + c.1 = a.1 * (b.2 * c.2) + (b.1 * c.2 + c.1) := by rw [Int.add_mul, Int.mul_assoc, Int.add_assoc]
    rw [e]
    conv => rhs; rw [Int.add_emod, Int.emod_emod_of_dvd _ (Int.dvd_refl PP), ← Int.add_emod]
  · rw [emod_mul', emod_mul_r, Int.mul_assoc]
theorem dJoin_unit_l {d : Int × Int} (h : dOK d) : dJoin dUnit d = d := by
  unfold dJoin dUnit
  obtain ⟨x, y⟩ := d
  simp only [dOK] at h
  simp only [Int.zero_mul, Int.zero_add, Int.one_mul, Prod.mk.injEq]
  exact ⟨Int.emod_eq_of_lt h.1.1 h.1.2, Int.emod_eq_of_lt h.2.1 h.2.2⟩
theorem dJoin_unit_r {d : Int × Int} (h : dOK d) : dJoin d dUnit = d := by
  unfold dJoin dUnit
  obtain ⟨x, y⟩ := d
  simp only [dOK] at h
  simp only [Int.mul_one, Int.add_zero, Prod.mk.injEq]
  exact ⟨Int.emod_eq_of_lt h.1.1 h.1.2, Int.emod_eq_of_lt h.2.1 h.2.2⟩
theorem dNat_add {d : Int × Int} (m n : Nat) : dNat d (m + n) = dJoin (dNat d m) (dNat d n) := by
  induction n with
  | zero => rw [Nat.add_zero, dNat, dJoin_unit_r (dOK_nat d m)]
  | succ n ih => rw [← Nat.add_assoc, dNat, ih, dNat, dJoin_assoc]
theorem dNat_mul {d : Int × Int} (hd : dOK d) (m n : Nat) : dNat d (m * n) = dNat (dNat d m) n := by
  induction n with
  | zero => rfl
  | succ n ih => rw [Nat.mul_succ, dNat_add, ih, dNat]
theorem dNat_one {d : Int × Int} (hd : dOK d) : dNat d 1 = d := by rw [dNat, dNat, dJoin_unit_l hd]

theorem digest_Unit_spec {K : Int × Int → World → Prop} (h : ∀ w', Ext w0 w' → K dUnit w') : C_digest_Unit K w0 := by
  apply S_digest_Unit
  unfold F_digest_Unit
  exact (St.init w0).allocK fun b1 w1 s _ _ => s.st0 0 rfl rfl rfl fun w2 s _ => s.ld0 (x := (_, _)) 0 rfl rfl (h _ s.fr)

theorem digest_Letter_spec {b : Int} (hb : 0 ≤ b ∧ b < 256) {K : Int × Int → World → Prop} (h : ∀ w', Ext w0 w' → K (dLetter b) w') : C_digest_Letter b K w0 := by
  apply S_digest_Letter
  unfold F_digest_Letter
  exact (St.init w0).allocK fun b1 w1 s _ _ => arith_u64 (by omega) (by omega) (arith_u64 (by omega) (by omega) (s.st0 0 rfl rfl rfl fun w2 s _ => s.ld0 (x := (_, _)) 0 rfl rfl (h _ s.fr)))

theorem digest_Join_spec {a b : Int × Int} (ha : dOK a) (hb : dOK b) {K : Int × Int → World → Prop} (h : ∀ w', Ext w0 w' → K (dJoin a b) w') : C_digest_Join a b K w0 := by
  apply S_digest_Join
  unfold F_digest_Join
  obtain ⟨⟨a1, a2⟩, ⟨a3, a4⟩⟩ := ha
  obtain ⟨⟨b1, b2⟩, ⟨b3, b4⟩⟩ := hb
  simp only [PP] at a2 a4 b2 b4
  refine (St.init w0).allocK fun b1 w1 s _ _ => s.allocK fun b2 w2 s _ _ => s.allocK fun b3 w3 s _ _ => s.drawK fun w4 s _ _ => ?_
  refine s.ldi 2 0 rfl rfl (s.ldi 1 1 rfl rfl (s.ldi 1 0 rfl rfl (s.ldi 2 1 rfl rfl (s.ldi 1 1 rfl rfl ?_))))
  refine modular_Mul_spec (by omega) (by omega) ⟨s.still 1 1 rfl rfl, s.still 2 1 rfl rfl, s.still 1 0 rfl rfl, ?_⟩
  have hm : 0 ≤ a.1 * b.2 % 2305843009213693951 ∧ a.1 * b.2 % 2305843009213693951 < 2305843009213693951 := ⟨Int.emod_nonneg _ (by decide), Int.emod_lt_of_pos _ (by decide)⟩
  refine modular_Add_spec (by omega) (by omega) ⟨s.still 1 1 rfl rfl, s.still 2 1 rfl rfl, modular_Mul_spec (by omega) (by omega) ?_⟩
  refine s.st0 0 rfl rfl rfl fun w5 s _ => s.ld0 (x := (_, _)) 0 rfl rfl ?_
  have := h _ s.fr
  unfold dJoin at this
  have e : (a.1 * b.2 % 2305843009213693951 + b.1) % 2305843009213693951 = (a.1 * b.2 + b.1) % PP := by
    simp only [PP]
    rw [Int.add_emod, Int.emod_emod_of_dvd _ (Int.dvd_refl _), ← Int.add_emod]
  rw [e]; exact this

theorem digest_Repeat_spec {d : Int × Int} {k : Int} (hd : dOK d) (hk : 0 ≤ k ∧ k ≤ 9223372036854775807) {K : Int × Int → World → Prop} (h : ∀ w', Ext w0 w' → K (dNat d k.toNat) w') : C_digest_Repeat d k K w0 := by
  apply S_digest_Repeat
  unfold F_digest_Repeat
  refine (St.init w0).allocK fun b1 w1 s _ _ => s.allocK fun b2 w2 s _ _ => digest_Unit_spec fun w3 e => (s.ext e).allocK fun b4 w4 s _ _ => s.st0 0 rfl rfl rfl fun w5 s _ => ?_
  refine ⟨fun x w => ∃ d1 r z, St w0 (fun _ => False) [(b4, cells yapi_Digest r), (b2, z), (b1, cells yapi_Digest d1)] w ∧ z.length = 2 ∧ dOK d1 ∧ dOK r ∧ 0 ≤ x.1 ∧ x.1 ≤ 9223372036854775807 ∧ dJoin r (dNat d1 x.1.toNat) = dNat d k.toNat,
    fun x _ => x.1.toNat, ⟨d, dUnit, _, s, rfl, hd, dOK_unit, hk.1, hk.2, dJoin_unit_l (dOK_nat _ _)⟩, ?_⟩
  rintro ⟨m, _⟩ w ⟨d1, r, z, s, hz, hd1, hr, hm0, hm1, e⟩ _
  dsimp only at hm0 hm1 e ⊢
  refine gd_dec (fun hpos => ?_) (fun hpos => ?_)
  · refine ⟨fun _ w' => St w0 (fun _ => False) [(b4, cells yapi_Digest (if m.toNat % 2 = 1 then dJoin r d1 else r)), (b2, z), (b1, cells yapi_Digest d1)] w', ⟨by decide, letZ_mk ?_⟩, ?_⟩
    · rw [Int.tmod_eq_emod_of_nonneg hm0]
      refine gd_eq (fun h1 => ?_) (fun h1 => ?_)
      · refine s.ld0 0 rfl rfl (s.ld0 2 rfl rfl (digest_Join_spec hr hd1 fun w8 e8 => (s.ext e8).st0 0 rfl rfl rfl fun w9 s _ => ?_))
        rw [if_pos (by omega)]; exact s
      · rw [if_neg (by omega)]; exact s
    · rintro _ w7 s _
      refine s.ld0 2 rfl rfl (s.ld0 2 rfl rfl (digest_Join_spec hd1 hd1 fun w8 e8 => (s.ext e8).st0 2 rfl rfl rfl fun w9 s _ => ⟨by decide, ?_⟩))
      rw [Int.tdiv_eq_ediv_of_nonneg hm0]
      refine arith_i64 (by omega) (by omega) ⟨⟨dJoin d1 d1, _, _, s, hz, dOK_join _ _, ?_, by omega, by omega, ?_⟩, by omega⟩
      · split
        · exact dOK_join _ _
        · exact hr
      · rw [← e, show (m / 2).toNat = m.toNat / 2 by omega]
        have e2 : dNat (dJoin d1 d1) (m.toNat / 2) = dNat d1 (2 * (m.toNat / 2)) := by
          rw [dNat_mul hd1]
          congr 1
          rw [dNat, dNat_one hd1]
        have hmm : m.toNat = m.toNat % 2 + 2 * (m.toNat / 2) := by omega
        rw [e2]
        conv => rhs; rw [hmm]
        rw [dNat_add, ← dJoin_assoc]
        rcases Nat.mod_two_eq_zero_or_one m.toNat with h0 | h0
        · rw [if_neg (by omega), h0, dNat, dJoin_unit_r hr]
        · rw [if_pos h0, h0, dNat_one hd1]
  · have : m = 0 := by omega
    subst this
    refine s.ld0 0 rfl rfl (s.st0 1 rfl hz.symm rfl fun w9 s _ => s.ld0 1 rfl rfl ?_)
    have : r = dNat d k.toNat := by rw [← e]; exact (dJoin_unit_r hr).symm
    rw [this]
    exact h _ s.fr

end Go.Proofs.YtnmgjpcooncjlaaGreat

/- What the package weight computes, from its texts. -/
set_option linter.unusedVariables false
set_option linter.unusedSimpArgs false
namespace Go.Proofs.YtnmgjpcooncjlaaGreat
open Go.Den

variable {w0 : World}

abbrev WT := Int × Int × Int × Int × Int × Int
abbrev MX : Int := 1152921504606846976
abbrev BASE : Int := 1103515245
def WT.len (a : WT) : Int := a.1
def WT.lines (a : WT) : Int := a.2.1
def WT.head (a : WT) : Int := a.2.2.1
def WT.tail (a : WT) : Int := a.2.2.2.1
def WT.dig (a : WT) : Int × Int := a.2.2.2.2

structure wOK (a : WT) : Prop where
  len : 0 ≤ a.1 ∧ a.1 ≤ 1152921504606846976
  lines : 0 ≤ a.2.1
  zero : a.2.1 = 0 → a.2.2.1 = a.1 ∧ a.2.2.2.1 = a.1
  pos : a.2.1 ≠ 0 → 0 ≤ a.2.2.1 ∧ a.2.2.1 ≤ a.1 ∧ 0 ≤ a.2.2.2.1 ∧ a.2.2.2.1 ≤ a.1 - a.2.2.1 ∧ a.2.1 ≤ a.1 - a.2.2.1 - a.2.2.2.1 ∧ (a.2.1 = 1 → a.1 - a.2.2.1 - a.2.2.2.1 = 1)
  val : 0 ≤ a.2.2.2.2.1 ∧ a.2.2.2.2.1 < 2305843009213693951
  empty : a.1 = 0 → a.2.2.2.2.1 = 0
  scale : a.2.2.2.2.2 = 1103515245 ^ a.1.toNat % 2305843009213693951

theorem wOK.dOK {a : WT} (h : wOK a) : dOK a.2.2.2.2 :=
  ⟨⟨h.val.1, h.val.2⟩, by rw [h.scale]; exact ⟨Int.emod_nonneg _ (by decide), Int.emod_lt_of_pos _ (by decide)⟩⟩

def wUnit : WT := (0, 0, 0, 0, 0, 1)
def wLetter (b : Int) : WT := if b = 10 then (1, 1, 0, 0, b + 1, 1103515245) else (1, 0, 1, 1, b + 1, 1103515245)
def wJoin (a b : WT) : WT := (a.1 + b.1, a.2.1 + b.2.1, (if a.2.1 = 0 then a.1 + b.2.2.1 else a.2.2.1), (if b.2.1 = 0 then b.1 + a.2.2.2.1 else b.2.2.2.1), dJoin a.2.2.2.2 b.2.2.2.2)
def wRep (a : WT) (k : Int) : WT := if a.1 * k = 0 then wUnit else (a.1 * k, a.2.1 * k, (if a.2.1 = 0 then a.1 * k else a.2.2.1), (if a.2.1 = 0 then a.1 * k else a.2.2.2.1), dNat a.2.2.2.2 k.toNat)

theorem wOK_unit : wOK wUnit := by
  constructor <;> simp [wUnit]
theorem wOK_letter {b : Int} (hb : 0 ≤ b ∧ b < 256) : wOK (wLetter b) := by
  unfold wLetter
  split
  · constructor <;> simp <;> omega
  · constructor <;> simp <;> omega
theorem wOK_join {a b : WT} (ha : wOK a) (hb : wOK b) (hl : a.1 + b.1 ≤ 1152921504606846976) : wOK (wJoin a b) := by
  obtain ⟨a1, a2, a3, a4, a5, a6, a7⟩ := ha
  obtain ⟨b1, b2, b3, b4, b5, b6, b7⟩ := hb
  constructor
  · simp only [wJoin]; omega
  · simp only [wJoin]; omega
  · simp only [wJoin]
    intro h
    have ea : a.2.1 = 0 := by omega
    have eb : b.2.1 = 0 := by omega
    rw [if_pos ea, if_pos eb]
    have := a3 ea
    have := b3 eb
    omega
  · simp only [wJoin]
    intro h
    by_cases ea : a.2.1 = 0
    · by_cases eb : b.2.1 = 0
      · omega
      · rw [if_pos ea, if_neg eb]
        have := a3 ea
        have := b4 eb
        omega
    · by_cases eb : b.2.1 = 0
      · rw [if_neg ea, if_pos eb]
        have := a4 ea
        have := b3 eb
        omega
      · rw [if_neg ea, if_neg eb]
        have := a4 ea
        have := b4 eb
        omega
  · exact (dOK_join _ _).1
  · simp only [wJoin, dJoin]
    intro h
    have ea : a.1 = 0 := by omega
    have eb : b.1 = 0 := by omega
    rw [a6 ea, b6 eb]
    simp
  · simp only [wJoin, dJoin, PP]
    rw [a7, b7, ← Int.mul_emod, ← Int.pow_add]
    congr 2
    omega
theorem dNat_scale (d : Int × Int) (x : Int) (n : Nat) (h : d.2 = x ^ n % 2305843009213693951) : ∀ k, (dNat d k).2 = x ^ (n * k) % 2305843009213693951
  | 0 => by simp [dNat, dUnit]
  | k + 1 => by
    simp only [dNat, dJoin, PP]
    rw [dNat_scale d x n h k, h, ← Int.mul_emod, ← Int.pow_add, Nat.mul_succ]
theorem wOK_rep {a : WT} {k : Int} (ha : wOK a) (hk : 0 ≤ k) (hl : a.1 * k ≤ 1152921504606846976) : wOK (wRep a k) := by
  unfold wRep
  split
  · exact wOK_unit
  · rename_i hne
    obtain ⟨a1, a2, a3, a4, a5, a6, a7⟩ := ha
    have hk1 : 1 ≤ k := by
      rcases Int.lt_or_le 0 k with h | h
      · omega
      · have : k = 0 := by omega
        subst this; simp at hne
    have hnn : 0 ≤ a.1 * k := Int.mul_nonneg a1.1 hk
    have hln : 0 ≤ a.2.1 * k := Int.mul_nonneg a2 hk
    have zl : a.2.1 * k = 0 ↔ a.2.1 = 0 := by
      constructor
      · intro h
        rcases Int.mul_eq_zero.1 h with h | h <;> omega
      · intro h; rw [h]; simp
    constructor
    · exact ⟨hnn, hl⟩
    · exact hln
    · intro h
      have := zl.1 h
      simp [this]
    · intro h
      have h' : a.2.1 ≠ 0 := fun e => h (zl.2 e)
      obtain ⟨p1, p2, p3, p4, p5, p6⟩ := a4 h'
      simp only [if_neg h']
      have e1 : a.1 * k = a.1 * (k - 1) + a.1 := by rw [Int.mul_sub, Int.mul_one]; omega
      have e2 : a.2.1 * k = a.2.1 * (k - 1) + a.2.1 := by rw [Int.mul_sub, Int.mul_one]; omega
      have m1 : a.2.1 * (k - 1) ≤ a.1 * (k - 1) := Int.mul_le_mul_of_nonneg_right (by omega) (by omega)
      have m2 : 0 ≤ a.2.1 * (k - 1) := Int.mul_nonneg a2 (by omega)
      rw [e1, e2]
      generalize hq : a.1 * (k - 1) = q at *
      generalize hr : a.2.1 * (k - 1) = r at *
      refine ⟨by omega, by omega, by omega, by omega, by omega, fun h1 => ?_⟩
      have hr0 : r = 0 := by omega
      have hone : a.2.1 = 1 := by omega
      have hk0 : k - 1 = 0 := by
        rcases Int.mul_eq_zero.1 (hr.trans hr0) with h | h
        · omega
        · exact h
      have : q = 0 := by rw [← hq, hk0]; simp
      have := p6 hone
      omega
    · exact (dOK_nat _ _).1
    · intro h; exact absurd h hne
    · have := dNat_scale a.2.2.2.2 1103515245 a.1.toNat a7 k.toNat
      simp only [this]
      congr 2
      have : (a.1 * k).toNat = a.1.toNat * k.toNat := Int.toNat_mul a1.1 hk
      rw [this]

theorem weight_Unit_spec {K : WT → World → Prop} (h : ∀ w', Ext w0 w' → K wUnit w') : C_weight_Unit K w0 := by
  apply S_weight_Unit
  unfold F_weight_Unit
  exact (St.init w0).allocK fun b1 w1 s _ _ => digest_Unit_spec fun w2 e => (s.ext e).st0 0 rfl rfl rfl fun w3 s _ => s.ld0 (x := (_, _, _, _, _, _)) 0 rfl rfl (h _ s.fr)

theorem weight_Letter_spec {b : Int} (hb : 0 ≤ b ∧ b < 256) {K : WT → World → Prop} (h : ∀ w', Ext w0 w' → K (wLetter b) w') : C_weight_Letter b K w0 := by
  apply S_weight_Letter
  unfold F_weight_Letter
  refine (St.init w0).allocK fun b1 w1 s _ _ => gd_eq (fun h1 => ?_) (fun h1 => ?_)
  · refine digest_Letter_spec hb fun w2 e => (s.ext e).st0 0 rfl rfl rfl fun w3 s _ => s.ld0 (x := (_, _, _, _, _, _)) 0 rfl rfl ?_
    have := h _ s.fr
    rwa [wLetter, if_pos h1] at this
  · refine digest_Letter_spec hb fun w2 e => (s.ext e).st0 0 rfl rfl rfl fun w3 s _ => s.ld0 (x := (_, _, _, _, _, _)) 0 rfl rfl ?_
    have := h _ s.fr
    rwa [wLetter, if_neg h1] at this

theorem weight_Valid_spec {a : WT} (ha : wOK a) {K : Bool → World → Prop} (h : ∀ w', Ext w0 w' → K true w') : C_weight_Valid a K w0 := by
  apply S_weight_Valid
  unfold F_weight_Valid
  obtain ⟨a1, a2, a3, a4, a5, a6, a7⟩ := ha
  refine (St.init w0).allocK fun b1 w1 s _ _ => ?_
  refine ⟨fun x w => x.1 = false ∧ w = w1, s.ldi 0 0 rfl rfl (length_Valid_spec ?_), ?_⟩
  · rw [decide_eq_true a1]
    exact gd_f rfl (s.ldi 0 1 rfl rfl ⟨decide_eq_false (by omega), rfl⟩)
  · rintro ⟨x, _⟩ w2 ⟨rfl, rfl⟩ _
    refine gd_f rfl ⟨fun _ w => w = w2, s.ldi 0 1 rfl rfl (gd_eq (fun hz => ?_) (fun hz => ?_)), ?_⟩
    · obtain ⟨z1, z2⟩ := a3 hz
      refine ⟨fun x w => x.1 = false ∧ w = w2, s.ldi 0 2 rfl rfl (s.ldi 0 0 rfl rfl (gd_f (by simp [z1]) (s.ldi 0 3 rfl rfl (s.ldi 0 0 rfl rfl ⟨by simp [z2], rfl⟩)))), ?_⟩
      rintro ⟨x, _⟩ w ⟨rfl, rfl⟩ _
      exact gd_f rfl rfl
    · obtain ⟨p1, p2, p3, p4, p5, p6⟩ := a4 hz
      refine ⟨fun x w => x.1 = false ∧ w = w2, s.ldi 0 2 rfl rfl (gd_dec (fun h => absurd h (by omega)) (fun _ => s.ldi 0 2 rfl rfl (s.ldi 0 0 rfl rfl (gd_dec (fun h => absurd h (by omega)) (fun _ =>
        s.ldi 0 3 rfl rfl (gd_dec (fun h => absurd h (by omega)) (fun _ => s.ldi 0 3 rfl rfl (s.ldi 0 0 rfl rfl (s.ldi 0 2 rfl rfl (arith_i64 (by omega) (by omega) ⟨decide_eq_false (by omega), rfl⟩))))))))) ), ?_⟩
      rintro ⟨x, _⟩ w ⟨rfl, rfl⟩ _
      refine gd_f rfl (s.ldi 0 0 rfl rfl (s.ldi 0 2 rfl rfl (arith_i64 (by omega) (by omega) (s.ldi 0 3 rfl rfl (arith_i64 (by omega) (by omega) ?_)))))
      refine ⟨fun x w' => x.1 = false ∧ w' = w, s.ldi 0 1 rfl rfl (gd_dec (fun h => absurd h (by omega)) (fun _ => s.ldi 0 1 rfl rfl (gd_eq (fun h1 => ⟨by simp [p6 h1], rfl⟩) (fun _ => ⟨rfl, rfl⟩)))), ?_⟩
      rintro ⟨x, _⟩ w ⟨rfl, rfl⟩ _
      exact gd_f rfl rfl
    · rintro _ w rfl _
      refine ⟨fun x w' => x.1 = false ∧ w' = w, ?_, ?_⟩
      · have e4 : ∀ o, (Addr.add (Addr.add ⟨b1, 0, none⟩ 4) o) = Addr.add ⟨b1, 0, none⟩ (4 + o) := fun o => Addr.add_add _ _ _
        simp only [e4]
        refine s.ldi 0 4 rfl rfl (gd_dec (fun h => absurd h (by omega)) (fun _ => s.ldi 0 0 rfl rfl (gd_eq (fun h0 => s.ldi 0 4 rfl rfl ⟨by simp [a6 h0], trivial⟩) (fun _ => ⟨trivial, trivial⟩))))
      · rintro ⟨x, _⟩ w ⟨rfl, rfl⟩ _
        have e4 : ∀ o, (Addr.add (Addr.add ⟨b1, 0, none⟩ 4) o) = Addr.add ⟨b1, 0, none⟩ (4 + o) := fun o => Addr.add_add _ _ _
        simp only [e4]
        refine gd_f rfl (s.drawK fun w9 s _ _ => s.ldi 0 5 rfl rfl (s.ldi 0 0 rfl rfl (arith_u64 (by omega) (by omega) (modular_Pow_spec (by decide) (by omega) ⟨s.still 0 5 rfl rfl, ?_⟩))))
        have : (a.2.2.2.2.2 == 1103515245 ^ a.1.toNat % 2305843009213693951) = true := by rw [a7]; simp
        rw [this]
        exact h _ s.fr


theorem weight_Join_spec {a b : WT} (ha : wOK a) (hb : wOK b) {K : WT × Value → World → Prop} (hl : a.1 + b.1 ≤ 1152921504606846976) (h : ∀ w', Ext w0 w' → K (wJoin a b, .nilIface) w') : C_weight_Join a b K w0 := by
  apply S_weight_Join
  unfold F_weight_Join
  have hj := wOK_join ha hb hl
  have da := ha.dOK
  have db := hb.dOK
  have la : a.2.1 ≤ a.1 := by
    by_cases e : a.2.1 = 0
    · rw [e]; exact ha.len.1
    · have := ha.pos e; omega
  have lb : b.2.1 ≤ b.1 := by
    by_cases e : b.2.1 = 0
    · rw [e]; exact hb.len.1
    · have := hb.pos e; omega
  have ha2 := ha.len
  have hb2 := hb.len
  have ha3 := ha.lines
  have hb3 := hb.lines
  refine (St.init w0).allocK fun b1 w1 s _ _ => s.allocK fun b2 w2 s _ _ => s.allocK fun b3 w3 s _ _ => ?_
  refine ⟨fun x w => x.1 = false ∧ St w0 (fun _ => False) [(b3, [.int .i64 0, .int .i64 0, .int .i64 0, .int .i64 0, .int .u64 0, .int .u64 0]), (b2, cells yapi_Weight b), (b1, cells yapi_Weight a)] w, s.ld0 2 rfl rfl (weight_Valid_spec ha fun w5 e => ?_), ?_⟩
  · exact gd_f rfl ((s.ext e).ld0 1 rfl rfl (weight_Valid_spec hb fun w6 e6 => ⟨rfl, (s.ext e).ext e6⟩))
  · rintro ⟨x, _⟩ w4 ⟨rfl, s⟩ _
    refine gd_f rfl (s.ldi 2 0 rfl rfl (s.ldi 1 0 rfl rfl (length_Add_spec ha.len hb.len (fun _ => nilIfc_nil (gd_f rfl ?_)) (fun h => absurd h (by omega)))))
    refine ⟨fun x w => ∃ b4, x.1 = ⟨b4, 0, none⟩ ∧ St w0 (fun _ => False) [(b4, [.int .i64 (a.1 + b.1), .int .i64 (a.2.1 + b.2.1), .int .i64 a.2.2.1, .int .i64 b.2.2.2.1, .int .u64 (dJoin a.2.2.2.2 b.2.2.2.2).1, .int .u64 (dJoin a.2.2.2.2 b.2.2.2.2).2]), (b3, [.int .i64 0, .int .i64 0, .int .i64 0, .int .i64 0, .int .u64 0, .int .u64 0]), (b2, cells yapi_Weight b), (b1, cells yapi_Weight a)] w, ?_, ?_⟩
    · refine s.drawK fun w11 s _ _ => s.ldi 2 1 rfl rfl (s.ldi 1 1 rfl rfl (arith_i64 (by omega) (by omega) (s.ldi 2 2 rfl rfl (s.ldi 1 3 rfl rfl (s.ld 2 4 rfl rfl (s.ld 1 4 rfl rfl ⟨?_, ?_⟩))))))
      · refine digest_Join_spec da db fun w12 e => ?_
        have s := s.ext e
        refine ⟨s.still 1 3 rfl rfl, s.still 2 2 rfl rfl, s.still 1 1 rfl rfl, s.still 2 1 rfl rfl, s.allocK fun b4 w13 s _ _ => ⟨s.still 2 3 rfl rfl, s.still 3 2 rfl rfl, s.still 2 1 rfl rfl, s.still 3 1 rfl rfl, s.st0 0 rfl rfl rfl fun w14 s _ => ⟨b4, rfl, s⟩⟩⟩
      · refine s.allocK fun b4 w13 s _ _ => ⟨s.still 2 4 rfl rfl, s.still 3 4 rfl rfl, s.still 2 3 rfl rfl, s.still 3 2 rfl rfl, s.still 2 1 rfl rfl, s.still 3 1 rfl rfl, digest_Join_spec da db fun w12 e => ?_⟩
        have s := s.ext e
        exact ⟨s.still 2 3 rfl rfl, s.still 3 2 rfl rfl, s.still 2 1 rfl rfl, s.still 3 1 rfl rfl, s.st0 0 rfl rfl rfl fun w14 s _ => ⟨b4, rfl, s⟩⟩
    · rintro ⟨x, _⟩ w10 ⟨b4, rfl, s⟩ _
      refine ⟨fun _ w => St w0 (fun _ => False) [(b4, [.int .i64 (a.1 + b.1), .int .i64 (a.2.1 + b.2.1), .int .i64 (if a.2.1 = 0 then a.1 + b.2.2.1 else a.2.2.1), .int .i64 b.2.2.2.1, .int .u64 (dJoin a.2.2.2.2 b.2.2.2.2).1, .int .u64 (dJoin a.2.2.2.2 b.2.2.2.2).2]), (b3, [.int .i64 0, .int .i64 0, .int .i64 0, .int .i64 0, .int .u64 0, .int .u64 0]), (b2, cells yapi_Weight b), (b1, cells yapi_Weight a)] w, s.ldi 3 1 rfl rfl (gd_eq (fun hz => ?_) (fun hz => ?_)), ?_⟩
      · have : 0 ≤ b.2.2.1 ∧ b.2.2.1 ≤ b.1 := by
          by_cases e : b.2.1 = 0
          · have := hb.zero e; omega
          · have := hb.pos e; omega
        refine s.ldi 3 0 rfl rfl (s.ldi 2 2 rfl rfl (arith_i64 (by omega) (by omega) (s.st 0 2 rfl (by simp) rfl fun w19 s _ => ?_)))
        rw [if_pos hz]; exact s
      · rw [if_neg hz]; exact s
      · rintro _ w18 s _
        refine ⟨fun _ w => St w0 (fun _ => False) [(b4, cells yapi_Weight (wJoin a b)), (b3, [.int .i64 0, .int .i64 0, .int .i64 0, .int .i64 0, .int .u64 0, .int .u64 0]), (b2, cells yapi_Weight b), (b1, cells yapi_Weight a)] w, s.ldi 2 1 rfl rfl (gd_eq (fun hz => ?_) (fun hz => ?_)), ?_⟩
        · have : 0 ≤ a.2.2.2.1 ∧ a.2.2.2.1 ≤ a.1 := by
            by_cases e : a.2.1 = 0
            · have := ha.zero e; omega
            · have := ha.pos e; omega
          refine s.ldi 2 0 rfl rfl (s.ldi 3 3 rfl rfl (arith_i64 (by omega) (by omega) (s.st 0 3 rfl (by simp) rfl fun w19 s _ => ?_)))
          have e : cells yapi_Weight (wJoin a b) = splice [.int .i64 (a.1 + b.1), .int .i64 (a.2.1 + b.2.1), .int .i64 (if a.2.1 = 0 then a.1 + b.2.2.1 else a.2.2.1), .int .i64 b.2.2.2.1, .int .u64 (dJoin a.2.2.2.2 b.2.2.2.2).1, .int .u64 (dJoin a.2.2.2.2 b.2.2.2.2).2] 3 [.int .i64 (b.1 + a.2.2.2.1)] := by
            simp [cells, wJoin, splice, hz]
          rw [e]; exact s
        · have e : cells yapi_Weight (wJoin a b) = [.int .i64 (a.1 + b.1), .int .i64 (a.2.1 + b.2.1), .int .i64 (if a.2.1 = 0 then a.1 + b.2.2.1 else a.2.2.1), .int .i64 b.2.2.2.1, .int .u64 (dJoin a.2.2.2.2 b.2.2.2.2).1, .int .u64 (dJoin a.2.2.2.2 b.2.2.2.2).2] := by
            simp [cells, wJoin, hz]
          rw [e]; exact s
        · rintro _ w20 s _
          exact s.ld0 0 rfl rfl (s.st0 1 rfl rfl rfl fun w22 s _ => s.ld0 1 rfl rfl (h _ s.fr))

theorem weight_Repeat_spec {a : WT} {k : Int} (ha : wOK a) (hk : 0 ≤ k ∧ k ≤ 9223372036854775807) {K : WT × Value → World → Prop} (hl : a.1 * k ≤ 1152921504606846976) (h : ∀ w', Ext w0 w' → K (wRep a k, .nilIface) w') : C_weight_Repeat a k K w0 := by
  apply S_weight_Repeat
  unfold F_weight_Repeat
  have da := ha.dOK
  have la : a.2.1 ≤ a.1 := by
    by_cases e : a.2.1 = 0
    · rw [e]; exact ha.len.1
    · have := ha.pos e; omega
  have ha2 := ha.len
  have ha3 := ha.lines
  have hlk : 0 ≤ a.2.1 * k ∧ a.2.1 * k ≤ 1152921504606846976 := ⟨Int.mul_nonneg ha3 hk.1, Int.le_trans (Int.mul_le_mul_of_nonneg_right la hk.1) hl⟩
  refine (St.init w0).allocK fun b1 w1 s _ _ => s.allocK fun b2 w2 s _ _ => s.ld0 1 rfl rfl (weight_Valid_spec ha fun w3 e => ?_)
  have s := s.ext e
  refine gd_f rfl (gd_dec (fun h => absurd h (by omega)) (fun _ => s.ldi 1 0 rfl rfl (length_Mul_spec ha.len hk.1 (fun _ => nilIfc_nil (gd_f rfl (gd_eq (fun hz => ?_) (fun hz => ?_)))) (fun h => absurd h (by omega)))))
  · refine weight_Unit_spec fun w8 e => (s.ext e).st0 0 rfl rfl rfl fun w9 s _ => s.ld0 0 rfl rfl ?_
    have := h _ s.fr
    rwa [wRep, if_pos hz] at this
  · refine ⟨fun x w => ∃ b4, x.1 = ⟨b4, 0, none⟩ ∧ St w0 (fun _ => False) [(b4, [.int .i64 (a.1 * k), .int .i64 (a.2.1 * k), .int .i64 a.2.2.1, .int .i64 a.2.2.2.1, .int .u64 (dNat a.2.2.2.2 k.toNat).1, .int .u64 (dNat a.2.2.2.2 k.toNat).2]), (b2, [.int .i64 0, .int .i64 0, .int .i64 0, .int .i64 0, .int .u64 0, .int .u64 0]), (b1, cells yapi_Weight a)] w, ?_, ?_⟩
    · refine s.drawK fun w11 s _ _ => s.ldi 1 1 rfl rfl (arith_i64 (by omega) (by omega) (s.ldi 1 2 rfl rfl (s.ldi 1 3 rfl rfl (s.ld 1 4 rfl rfl ⟨?_, ?_⟩))))
      · refine digest_Repeat_spec da hk fun w12 e => ?_
        have s := s.ext e
        refine ⟨s.still 1 3 rfl rfl, s.still 1 2 rfl rfl, s.still 1 1 rfl rfl, s.allocK fun b4 w13 s _ _ => ⟨s.still 2 3 rfl rfl, s.still 2 2 rfl rfl, s.still 2 1 rfl rfl, s.st0 0 rfl rfl rfl fun w14 s _ => ⟨b4, rfl, s⟩⟩⟩
      · refine s.allocK fun b4 w13 s _ _ => ⟨s.still 2 4 rfl rfl, s.still 2 3 rfl rfl, s.still 2 2 rfl rfl, s.still 2 1 rfl rfl, digest_Repeat_spec da hk fun w12 e => ?_⟩
        have s := s.ext e
        exact ⟨s.still 2 3 rfl rfl, s.still 2 2 rfl rfl, s.still 2 1 rfl rfl, s.st0 0 rfl rfl rfl fun w14 s _ => ⟨b4, rfl, s⟩⟩
    · rintro ⟨x, _⟩ w10 ⟨b4, rfl, s⟩ _
      refine ⟨fun _ w => St w0 (fun _ => False) [(b4, cells yapi_Weight (wRep a k)), (b2, [.int .i64 0, .int .i64 0, .int .i64 0, .int .i64 0, .int .u64 0, .int .u64 0]), (b1, cells yapi_Weight a)] w, s.ldi 2 1 rfl rfl (gd_eq (fun h0 => ?_) (fun h0 => ?_)), ?_⟩
      · refine s.st 0 2 rfl (by simp) rfl fun w19 s _ => s.st 0 3 rfl (by simp [splice]) rfl fun w20 s _ => ?_
        have e : cells yapi_Weight (wRep a k) = [.int .i64 (a.1 * k), .int .i64 (a.2.1 * k), .int .i64 (a.1 * k), .int .i64 (a.1 * k), .int .u64 (dNat a.2.2.2.2 k.toNat).1, .int .u64 (dNat a.2.2.2.2 k.toNat).2] := by
          simp [cells, wRep, hz, h0]
        rw [e]; exact s
      · have e : cells yapi_Weight (wRep a k) = [.int .i64 (a.1 * k), .int .i64 (a.2.1 * k), .int .i64 a.2.2.1, .int .i64 a.2.2.2.1, .int .u64 (dNat a.2.2.2.2 k.toNat).1, .int .u64 (dNat a.2.2.2.2 k.toNat).2] := by
          simp [cells, wRep, hz, h0]
        rw [e]; exact s
      · rintro _ w20 s _
        exact s.ld0 0 rfl rfl (s.st0 1 rfl rfl rfl fun w22 s _ => s.ld0 1 rfl rfl (h _ s.fr))

end Go.Proofs.YtnmgjpcooncjlaaGreat

/- What the package intern computes, from its texts: a store in memory and the list that it stands for. -/
set_option linter.unusedVariables false
set_option linter.unusedSimpArgs false
namespace Go.Proofs.YtnmgjpcooncjlaaGreat
open Go.Den

variable {w0 : World}

/-! ### The list that a store stands for -/
abbrev RT := Int × Int × Int × Int × Int
abbrev ET := RT × WT × Int × Bool
def eZero : ET := ((0, 0, 0, 0, 0), wUnit, 0, true)
def eAt (L : List ET) (id : Int) : ET := if id = 0 then eZero else L.getD (id - 1).toNat eZero
def mkLetter (b : Int) : ET := ((1, b, 0, 0, 0), wLetter b, 0, true)
def mkPair (L : List ET) (l r : Int) : ET := ((2, 0, l, r, 0), wJoin (eAt L l).2.1 (eAt L r).2.1,
  1 + (if (eAt L l).2.2.1 < (eAt L r).2.2.1 then (eAt L r).2.2.1 else (eAt L l).2.2.1),
  (eAt L l).2.2.2 && (eAt L r).2.2.2 && decide (-1 ≤ (eAt L l).2.2.1 - (eAt L r).2.2.1) && decide ((eAt L l).2.2.1 - (eAt L r).2.2.1 ≤ 1))
def mkPower (L : List ET) (x k : Int) : ET := ((3, 0, x, 0, k), wRep (eAt L x).2.1 k, 1 + (eAt L x).2.2.1, false)

def idx (L : List ET) : List (RT × Int) := L.zipIdx.map fun p => (p.1.1, (p.2 : Int) + 1)
abbrev lkR (L : List ET) (r : RT) : Option Int := lk (kt := yapi_Rule) (vt := .int .i64) (idx L) r

inductive Grow : List ET → Prop
  | nil : Grow []
  | letter {L : List ET} {b : Int} : Grow L → 0 ≤ b → b < 256 → lkR L (mkLetter b).1 = none → Grow (L ++ [mkLetter b])
  | pair {L : List ET} {l r : Int} : Grow L → 1 ≤ l → l ≤ L.length → 1 ≤ r → r ≤ L.length → (eAt L l).2.1.1 + (eAt L r).2.1.1 ≤ 1152921504606846976 → lkR L (mkPair L l r).1 = none → Grow (L ++ [mkPair L l r])
  | power {L : List ET} {x k : Int} : Grow L → 1 ≤ x → x ≤ L.length → 2 ≤ k → (eAt L x).2.1.1 * k ≤ 1152921504606846976 → lkR L (mkPower L x k).1 = none → Grow (L ++ [mkPower L x k])

structure EOK (i : Nat) (e : ET) : Prop where
  w : wOK e.2.1
  pos : 1 ≤ e.2.1.1
  d : 0 ≤ e.2.2.1 ∧ e.2.2.1 ≤ i

theorem eAt_get {L : List ET} {id : Int} (h1 : 1 ≤ id) (h2 : id ≤ L.length) : L[(id - 1).toNat]? = some (eAt L id) := by
  have hl : (id - 1).toNat < L.length := by omega
  unfold eAt
  rw [if_neg (by omega), List.getD_eq_getElem?_getD, List.getElem?_eq_getElem hl]
  rfl
theorem Grow.ok {L : List ET} (g : Grow L) : ∀ (i : Nat) (e : ET), L[i]? = some e → EOK i e := by
  induction g with
  | nil => intro i e h; simp at h
  | @letter L b g h0 h1 _ ih =>
    intro i e h
    rw [List.getElem?_append] at h
    split at h
    · exact ih i e h
    · have : i - L.length = 0 := by
        rcases Nat.eq_zero_or_pos (i - L.length) with h' | h'
        · exact h'
        · rw [List.getElem?_eq_none (by simp only [List.length_cons, List.length_nil]; omega)] at h; cases h
      rw [this] at h
      simp only [List.getElem?_cons_zero, Option.some.injEq] at h
      subst h
      refine ⟨wOK_letter ⟨h0, h1⟩, ?_, ?_⟩
      · simp only [mkLetter, wLetter]; split <;> exact Int.le_refl _
      · simp only [mkLetter]; omega
  | @pair L l r g hl1 hl2 hr1 hr2 hlen _ ih =>
    intro i e h
    rw [List.getElem?_append] at h
    split at h
    · exact ih i e h
    · have : i - L.length = 0 := by
        rcases Nat.eq_zero_or_pos (i - L.length) with h' | h'
        · exact h'
        · rw [List.getElem?_eq_none (by simp only [List.length_cons, List.length_nil]; omega)] at h; cases h
      rw [this] at h
      simp only [List.getElem?_cons_zero, Option.some.injEq] at h
      subst h
      have a := ih _ _ (eAt_get hl1 hl2)
      have b := ih _ _ (eAt_get hr1 hr2)
      have ap := a.pos
      have bp := b.pos
      have ad := a.d
      have bd := b.d
      refine ⟨wOK_join a.w b.w hlen, ?_, ?_⟩
      · simp only [mkPair, wJoin]; omega
      · simp only [mkPair]; split <;> omega
  | @power L x k g hx1 hx2 hk hlen _ ih =>
    intro i e h
    rw [List.getElem?_append] at h
    split at h
    · exact ih i e h
    · have : i - L.length = 0 := by
        rcases Nat.eq_zero_or_pos (i - L.length) with h' | h'
        · exact h'
        · rw [List.getElem?_eq_none (by simp only [List.length_cons, List.length_nil]; omega)] at h; cases h
      rw [this] at h
      simp only [List.getElem?_cons_zero, Option.some.injEq] at h
      subst h
      have a := ih _ _ (eAt_get hx1 hx2)
      have ap := a.pos
      have ad := a.d
      have hm : 1 * 1 ≤ (eAt L x).2.1.1 * k := Int.mul_le_mul ap (by omega) (by decide) (by omega)
      refine ⟨wOK_rep a.w (by omega) hlen, ?_, ?_⟩
      · simp only [mkPower, wRep]
        rw [if_neg (by omega)]
        simp only; omega
      · simp only [mkPower]; omega
theorem Grow.at_ {L : List ET} (g : Grow L) {id : Int} (h1 : 0 ≤ id) (h2 : id ≤ L.length) : wOK (eAt L id).2.1 ∧ 0 ≤ (eAt L id).2.2.1 ∧ (eAt L id).2.2.1 ≤ L.length ∧ (1 ≤ id → 1 ≤ (eAt L id).2.1.1) := by
  by_cases h : id = 0
  · subst h
    refine ⟨?_, ?_, ?_, fun h => by omega⟩
    · simp only [eAt, if_true, eZero]; exact wOK_unit
    · simp [eAt, eZero]
    · simp [eAt, eZero]
  · have := g.ok _ _ (eAt_get (by omega) h2)
    have d := this.d
    exact ⟨this.w, d.1, by omega, fun _ => this.pos⟩

theorem idx_append (L : List ET) (e : ET) : idx (L ++ [e]) = idx L ++ [(e.1, (L.length : Int) + 1)] := by
  simp [idx, List.zipIdx_append]
def known (L : List ET) (id : Int) : Bool := decide (0 ≤ id ∧ id ≤ L.length)
theorem lkR_pos {L : List ET} {r : RT} {i : Int} (h : lkR L r = some i) : 1 ≤ i ∧ i ≤ L.length := by
  unfold lkR lk at h
  cases hf : (idx L).find? (fun p => beqT yapi_Rule r p.1) with
  | none => rw [hf] at h; cases h
  | some p =>
    rw [hf] at h
    simp only [Option.map_some, Option.some.injEq] at h
    have hm := List.mem_of_find?_eq_some hf
    unfold idx at hm
    obtain ⟨q, hq, rfl⟩ := List.mem_map.1 hm
    obtain ⟨a, b⟩ := q
    have := (List.mem_zipIdx hq).2.1
    have h' : (b : Int) + 1 = i := h
    omega

/-- what a store answers, and the list after it -/
def pFind (L : List ET) (most : Int) (r : RT) : Int × Value := match lkR L r with
  | some i => (i, .nilIface)
  | none => if most ≤ L.length then (0, errV 3) else (0, .nilIface)
def pAdd (L : List ET) (most : Int) (e : ET) : List ET × (Int × Value) := match lkR L e.1 with
  | some i => (L, (i, .nilIface))
  | none => if most ≤ L.length then (L, (0, errV 3)) else (L ++ [e], ((L.length : Int) + 1, .nilIface))
def pLetter (L : List ET) (most b : Int) : List ET × (Int × Value) := pAdd L most (mkLetter b)
def pPair (L : List ET) (most l r : Int) : List ET × (Int × Value) :=
  if known L l = false ∨ known L r = false then (L, (0, errV 1)) else
  if l = 0 then (L, (r, .nilIface)) else
  if r = 0 then (L, (l, .nilIface)) else
  if 1152921504606846976 < (eAt L l).2.1.1 + (eAt L r).2.1.1 then (L, (0, errV 2)) else pAdd L most (mkPair L l r)
def pPower (L : List ET) (most x k : Int) : List ET × (Int × Value) :=
  if known L x = false ∨ k < 0 then (L, (0, errV 1)) else
  if k = 0 ∨ x = 0 then (L, (0, .nilIface)) else
  if k = 1 then (L, (x, .nilIface)) else
  if 1152921504606846976 < (eAt L x).2.1.1 * k then (L, (0, errV 2)) else pAdd L most (mkPower L x k)

/-! ### A store in memory -/
structure Sto (B : Nat → Prop) (w : World) (p : Addr) (most : Int) (L : List ET) : Prop where
  grow : Grow L
  most0 : 0 ≤ most ∧ most ≤ 1048576
  len : (L.length : Int) ≤ most
  mem : ∃ sl m, At w p [.int .i64 most, .slice sl.a sl.len sl.cap, .map (some m)] ∧ Wr w p 3 ∧ MapIs yapi_Rule (.int .i64) w m (idx L) ∧ Own yintern_entry w sl L ∧
    p.block ≠ m ∧ ¬ blk sl p.block ∧ ¬ blk sl m ∧ B p.block ∧ B m ∧ ∀ b, blk sl b → B b
  lt : ∀ b, B b → b < w.heap.size

theorem Sto.fr {B F : Nat → Prop} {w w' : World} {p : Addr} {most : Int} {L : List ET} (s : Sto B w p most L) (f : Fr F w w') (h : ∀ b, B b → ¬ F b) : Sto B w' p most L := by
  obtain ⟨sl, m, h1, h2, h3, h4, h5, h6, h7, h8, h9, h10⟩ := s.mem
  exact ⟨s.grow, s.most0, s.len, ⟨sl, m, h1.fr f (h _ h8), h2.fr f (h _ h8), h3.fr f (h _ h9), h4.fr f (fun b hb => h _ (h10 b hb)), h5, h6, h7, h8, h9, h10⟩, fun b hb => Nat.lt_of_lt_of_le (s.lt b hb) f.size⟩
theorem Sto.ext {B : Nat → Prop} {w w' : World} {p : Addr} {most : Int} {L : List ET} (s : Sto B w p most L) (f : Ext w w') : Sto B w' p most L := s.fr f fun _ _ h => h

/-! ### What the tables say of keys -/
noncomputable def mapElem (t : TypeId) : TypeId := match P.underlying t with
  | some (.map _ e) => e
  | _ => 0
theorem eqRule : eqOK P 2 t_api_Rule yapi_Rule = true := by kernel_rfl
theorem mapRule : P.underlying t_map_api_Rule_api_ID = some (.map t_api_Rule (mapElem t_map_api_Rule_api_ID)) := by kernel_rfl
theorem zeroRule : zeroOf P (mapElem t_map_api_Rule_api_ID) = some (val (.int .i64) (0 : Int)) := by kernel_rfl

/-! ### The functions -/
theorem base_Num_nil {K : Int → World → Prop} (h : K 0 w0) : C_base_Num .nilIface K w0 := by
  apply S_base_Num
  unfold F_base_Num
  exact nilIfc_nil (gd_t rfl h)
theorem base_Num_err {n : Int} {K : Int → World → Prop} (h : K n w0) : C_base_Num (errV n) K w0 := by
  apply S_base_Num
  unfold F_base_Num
  exact nilIfc_err (gd_f rfl (Or.inl ⟨n, rfl, gd_f rfl h⟩))
theorem base_Is_nil {n : Int} (hn : n ≠ 0) {K : Bool → World → Prop} (h : K false w0) : C_base_Is .nilIface n K w0 := by
  apply S_base_Is
  unfold F_base_Is
  exact base_Num_nil (gd_f (by simp; omega) h)
theorem base_Is_err {m n : Int} (hn : n ≠ 0) {K : Bool → World → Prop} (h : K (decide (m = n)) w0) : C_base_Is (errV m) n K w0 := by
  apply S_base_Is
  unfold F_base_Is
  refine base_Num_err (gd_eq (fun e => ?_) (fun e => ?_))
  · have : (n != 0) = decide (m = n) := by simp [e, hn]
    rw [this]; exact h
  · have : false = decide (m = n) := by simp [e]
    rw [this]; exact h

theorem intern_New_spec {most : Int} {K : Option Addr → World → Prop}
    (h : ∀ p w' B, Ext w0 w' → (∀ b, B b → w0.heap.size ≤ b) → Sto B w' p (if most < 0 then 0 else if 1048576 < most then 1048576 else most) [] → K (some p) w') : C_intern_New most K w0 := by
  apply S_intern_New
  unfold F_intern_New
  refine length_Clip_spec ?_
  have e1 := alloc_ext w0 (.map #[] 0)
  have n1 := alloc_new w0 (.map #[] 0)
  refine allocK_mk ?_
  refine (St.init (w0.alloc (.map #[] 0))).allocK fun b w s e hb => ?_
  have hsz : (w0.alloc (.map #[] 0)).heap.size = w0.heap.size + 1 := by simp
  obtain ⟨_, _, t, ht⟩ := s.loc _ (List.mem_cons_self ..)
  have hm : w.heap[w0.heap.size]? = some (.map #[] 0) := by
    rw [e.same _ (by rw [hsz]; omega) (fun h => h)]; exact n1
  refine h _ w (fun x => x = b ∨ x = w0.heap.size) (e1.trans e) (fun x hx => by omega) ⟨.nil, ?_, ?_, ⟨⟨none, 0, 0⟩, w0.heap.size, s.at_ (i := 0) rfl, wr_block ht, ⟨#[], 0, hm, by simp [idx]⟩, .none, ?_, ?_, ?_, Or.inl rfl, Or.inr rfl, ?_⟩, ?_⟩
  · split
    · omega
    · split <;> omega
  · simp only [List.length_nil]
    split
    · omega
    · split <;> omega
  · simp only; omega
  · rintro ⟨q, hq, _⟩; cases hq
  · rintro ⟨q, hq, _⟩; cases hq
  · rintro x ⟨q, hq, _⟩; cases hq
  · rintro x (rfl | rfl)
    · exact s.lt (List.mem_cons_self ..)
    · exact (Array.getElem?_eq_some_iff.1 hm).1

variable {B : Nat → Prop} {p : Addr} {most : Int} {L : List ET}

theorem intern_known_spec {id : Int} (st : Sto B w0 p most L) {K : Bool → World → Prop} (h : K (known L id) w0) : C_intern_Store_known (some p) id K w0 := by
  apply S_intern_Store_known
  unfold F_intern_Store_known
  obtain ⟨sl, m, h1, _, _, h4, _⟩ := st.mem
  have e := h4.view.len
  refine gd_dec (fun g => nonNil_some ⟨sl, h1.sub 1 rfl, ?_⟩) (fun g => ?_)
  · have : decide (id ≤ (sl.len : Int)) = known L id := by simp [known, g, e]
    rw [this]; exact h
  · have : false = known L id := by simp [known, g]
    rw [this]; exact h

theorem intern_at_spec {id : Int} (st : Sto B w0 p most L) (hk : known L id = true) {K : ET → World → Prop} (h : ∀ w', Ext w0 w' → K (eAt L id) w') : C_intern_Store_at (some p) id K w0 := by
  apply S_intern_Store_at
  unfold F_intern_Store_at
  have hk' := of_decide_eq_true hk
  obtain ⟨sl, m, h1, _, _, h4, _⟩ := st.mem
  refine (St.init w0).allocK fun b1 w1 s e1 _ => gd_eq (fun hi => weight_Unit_spec fun w2 e => (s.ext e).st0 0 rfl rfl rfl fun w3 s _ => s.ld0 (x := ((_, _, _, _, _), (_, _, _, _, _, _), _, _)) 0 rfl rfl ?_) (fun hi => nonNil_some ⟨sl, (h1.ext e1).sub 1 rfl, arith_i64 ?_ ?_ ?_⟩)
  · have := h w3 s.fr
    unfold eAt at this
    rw [if_pos hi] at this
    exact this
  · omega
  · have := st.most0; have := st.len; omega
  · have hx := eAt_get (L := L) (id := id) (by omega) hk'.2
    refine (h4.view.ext e1).idx (n := (id - 1).toNat) (by omega) hx rfl fun q hq => ⟨_, hq, s.st0 0 rfl (by rw [cells_length]; rfl) rfl fun w3 s _ => s.ld0 0 rfl rfl (h _ s.fr)⟩

theorem intern_find_spec {r : RT} (st : Sto B w0 p most L) {K : Int × Value → World → Prop} (h : ∀ w', Ext w0 w' → K (pFind L most r) w') : C_intern_Store_find (some p) r K w0 := by
  apply S_intern_Store_find
  unfold F_intern_Store_find
  obtain ⟨sl, m, h1, _, h3, h4, _⟩ := st.mem
  have hlen := h4.view.len
  refine (St.init w0).allocK fun b1 w1 s _ _ => s.drawK fun w2 s _ _ => nonNil_some ⟨some m, (h1.ext s.fr).sub 2 rfl, s.ld0 0 rfl rfl ?_⟩
  refine ⟨_, _, lk2_run (by decide) mapRule eqRule (by simp) zeroRule (h3.ext s.fr) r, ?_⟩
  unfold pFind lkR at h
  cases hl : lk (kt := yapi_Rule) (vt := .int .i64) (idx L) r with
  | some i =>
    rw [hl] at h
    exact gd_t rfl (h _ s.fr)
  | none =>
    rw [hl] at h
    refine gd_f rfl (s.drawK fun w3 s _ _ => nonNil_some ⟨sl, (h1.ext s.fr).sub 1 rfl, nonNil_some ⟨most, (h1.ext s.fr).sub 0 rfl, gd_dec (fun g => ?_) (fun g => ?_)⟩⟩)
    · have := h _ s.fr
      rw [if_pos (by omega)] at this
      exact this
    · have := h _ s.fr
      rw [if_neg (by omega)] at this
      exact this

end Go.Proofs.YtnmgjpcooncjlaaGreat

/- law51: a graph of commits in memory (history). -/
set_option linter.unusedVariables false
set_option linter.unusedSimpArgs false
namespace Go.Proofs.YtnmgjpcooncjlaaGreat
open Go.Den

variable {w0 w : World} {Ω : List Ob} {i j a b c g : Nat}

/-! ### Lists of numbers side by side, read only -/
def ivs (ts : List Sl) (vs : List (List Int)) : Ob :=
  ⟨true, fun B w => ts.length = vs.length ∧ ∀ (k : Nat) (s : Sl) (v : List Int), ts[k]? = some s → vs[k]? = some v → View (.int .i64) w s v ∧ s.len ≤ s.cap ∧ ∀ b, blk s b → B b,
    fun h f hB => ⟨h.1, fun k s v h1 h2 => ⟨(h.2 k s v h1 h2).1.fr f fun b hb => hB b ((h.2 k s v h1 h2).2.2 b hb), (h.2 k s v h1 h2).2⟩⟩⟩
theorem Sp.ivs_ {ts : List Sl} {vs : List (List Int)} (s : Sp w0 Ω w) (j : Nat) (h : Ω[j]? = some (ivs ts vs)) : ts.length = vs.length ∧ ∀ (k : Nat) (s : Sl) (v : List Int), ts[k]? = some s → vs[k]? = some v → View (.int .i64) w s v ∧ s.len ≤ s.cap := by
  obtain ⟨B, h, _⟩ := s.get j h
  exact ⟨h.1, fun k s v h1 h2 => ⟨(h.2 k s v h1 h2).1, (h.2 k s v h1 h2).2.1⟩⟩
theorem Sp.ivs0 (s : Sp w0 Ω w) : Sp w0 (ivs [] [] :: Ω) w :=
  s.push (B := fun _ => False) (.refl _ _) ⟨rfl, fun k s v h1 _ => by simp at h1⟩ (fun _ h => h.elim)
theorem Sp.ivs_add {ts : List Sl} {vs : List (List Int)} {sl : Sl} {v : List Int} (s : Sp w0 (own (.int .i64) sl v :: Ω) w) (j : Nat) (h : Ω[j]? = some (ivs ts vs)) : Sp w0 (ivs (ts ++ [sl]) (vs ++ [v]) :: Ω) w := by
  have s2 : Sp w0 (ivs ts vs :: own (.int .i64) sl v :: Ω) w := s.dup (j + 1) h rfl
  refine s2.fold 2 _ (Or.inl rfl) fun f hP _ => ?_
  have o1 := (hP 0 _ (by decide) rfl).1
  have o2 := (hP 1 _ (by decide) rfl).1
  refine ⟨by simp [o1.1], fun k s' v' h1 h2 => ?_⟩
  have hl := o1.1
  rcases Nat.lt_or_ge k ts.length with hk | hk
  · rw [List.getElem?_append_left hk] at h1
    rw [List.getElem?_append_left (by omega)] at h2
    obtain ⟨a, b, c⟩ := o1.2 k s' v' h1 h2
    exact ⟨a, b, fun x hx => ⟨0, by decide, by simp, c x hx⟩⟩
  · rw [List.getElem?_append_right hk] at h1
    rw [List.getElem?_append_right (by omega)] at h2
    have e : k - ts.length = 0 := by
      have := (List.getElem?_eq_some_iff.1 h1).1
      simp at this; omega
    rw [e] at h1
    rw [show k - vs.length = 0 by omega] at h2
    simp at h1 h2
    subst h1 h2
    exact ⟨o2.1.view, o2.1.cap, fun x hx => ⟨1, by decide, by simp, o2.2 x hx⟩⟩

/-! ### The graph -/
abbrev CT := List Int × Int × ByteArray
abbrev CM := yapi_Commit.T
structure Gh (Ω : List Ob) (a b c g : Nat) (csl : Sl) (cs : List CM) (C : List CT) : Prop where
  cell : Ω[a]? = some (cel g [.slice csl.a csl.len csl.cap])
  com : Ω[b]? = some (own yapi_Commit csl cs)
  par : Ω[c]? = some (ivs (cs.map fun x => x.1) (C.map fun x => x.1))
  eq : cs.map (fun x => x.2) = C.map (fun x => x.2)
variable {csl : Sl} {cs : List CM} {C : List CT}
theorem Gh.len (G : Gh Ω a b c g csl cs C) : cs.length = C.length := by
  have := congrArg List.length G.eq
  simpa using this
theorem Gh.cons {o : Ob} (G : Gh Ω a b c g csl cs C) : Gh (o :: Ω) (a + 1) (b + 1) (c + 1) g csl cs C := ⟨G.cell, G.com, G.par, G.eq⟩
theorem Gh.at_ (G : Gh Ω a b c g csl cs C) {k : Nat} {d : CT} (hd : C[k]? = some d) : ∃ x : CM, cs[k]? = some x ∧ x.2 = d.2 := by
  have hl := G.len
  have hk := (List.getElem?_eq_some_iff.1 hd).1
  have hx := List.getElem?_eq_getElem (l := cs) (i := k) (by omega)
  refine ⟨_, hx, ?_⟩
  have h1 : (cs.map fun x => x.2)[k]? = (C.map fun x => x.2)[k]? := by rw [G.eq]
  rw [List.getElem?_map, List.getElem?_map, hx, hd] at h1
  exact Option.some.inj h1
theorem history_New_spec (s : Sp w0 Ω w) {K : Option Addr → World → Prop} (h : ∀ g w', Sp w0 (cel g [.slice none 0 0] :: own yapi_Commit ⟨none, 0, 0⟩ [] :: ivs [] [] :: Ω) w' → K (some ⟨g, 0, none⟩) w') : C_history_New K w := by
  apply S_history_New
  unfold F_history_New
  have s := (Sp.ivs0 s).nil yapi_Commit
  exact s.allocK fun a1 w1 s => h _ _ s
theorem history_Len_spec (G : Gh Ω a b c g csl cs C) (s : Sp w0 Ω w) {K : Int → World → Prop} (h : K (C.length : Int) w) : C_history_Graph_Len (some ⟨g, 0, none⟩) K w := by
  apply S_history_Graph_Len
  unfold F_history_Graph_Len
  have hl := (s.view b G.com).len
  refine gd_f rfl (nonNil_some (s.lds (x := csl) a 0 G.cell rfl ?_))
  rw [hl, G.len]; exact h
theorem history_has_spec {n : Int} (G : Gh Ω a b c g csl cs C) (s : Sp w0 Ω w) {K : Bool → World → Prop} (h : K (decide (0 ≤ n ∧ n < (C.length : Int))) w) : C_history_Graph_has (some ⟨g, 0, none⟩) n K w := by
  apply S_history_Graph_has
  unfold F_history_Graph_has
  have hl := (s.view b G.com).len
  have hC := G.len
  refine gd_dec (fun c1 => nonNil_some (s.lds (x := csl) a 0 G.cell rfl ?_)) (fun c1 => ?_)
  · have : decide (n < (csl.len : Int)) = decide (0 ≤ n ∧ n < (C.length : Int)) := by rw [decide_eq_decide, hl, hC]; omega
    rw [this]; exact h
  · rw [decide_eq_false (by omega)] at h
    exact h
theorem history_Get_spec {n : Int} {k : Nat} {d : CT} (G : Gh Ω a b c g csl cs C) (s : Sp w0 Ω w) (hn : n = (k : Int)) (hd : C[k]? = some d) (hN : d.1.length ≤ 1000000000) {K : CM × Value → World → Prop} (h : ∀ ps w', Sp w0 (own (.int .i64) ps d.1 :: Ω) w' → K ((ps, d.2), .nilIface) w') : C_history_Graph_Get (some ⟨g, 0, none⟩) n K w := by
  apply S_history_Graph_Get
  unfold F_history_Graph_Get
  subst hn
  have hk := (List.getElem?_eq_some_iff.1 hd).1
  obtain ⟨x, hx, hx2⟩ := G.at_ hd
  refine s.allocK fun a1 w1 s => gd_f rfl (history_has_spec G.cons s ?_)
  rw [decide_eq_true (by omega)]
  refine gd_f rfl (nonNil_some (s.lds (x := csl) (a + 1) 0 G.cell rfl ((s.view (b + 1) G.com).idx rfl hx rfl fun q hq => ⟨x, hq, s.allocK fun a9 w2 s => s.st0 0 rfl rfl rfl fun w3 s => s.lds (x := x.1) 0 0 rfl rfl ?_⟩)))
  have hts : (cs.map fun x => x.1)[k]? = some x.1 := by rw [List.getElem?_map, hx]; rfl
  have hvs : (C.map fun x => x.1)[k]? = some d.1 := by rw [List.getElem?_map, hd]; rfl
  refine slices_Clone_spec s (fun w' s => ((Sp.ivs_ s (c + 2) G.par).2 k x.1 d.1 hts hvs).1) hN fun ps w4 s => ?_
  refine s.st 1 0 rfl rfl rfl fun w5 s => s.ld0 (ty := yapi_Commit) (x := (ps, x.2)) 1 rfl rfl (s.st0 2 rfl rfl rfl fun w6 s => s.ld0 (ty := yapi_Commit) (x := (ps, x.2)) 2 rfl rfl ?_)
  rw [hx2]
  exact h ps w6 (s.pick [0] 3 rfl (by decide))

/-- a commit that may be added -/
structure AddOK (n : Nat) (d : CT) : Prop where
  few : d.1.length ≤ 8
  note : d.2.2.size ≤ 200
  text : 0 ≤ d.2.1
  par : ∀ p ∈ d.1, 0 ≤ p ∧ p < (n : Int)
  nodup : d.1.Nodup
theorem history_Add_spec {psl : Sl} {d : CT} (G : Gh Ω a b c g csl cs C) (s : Sp w0 Ω w) (hab : a ≠ b) (hac : a ≠ c) (hbc : b ≠ c) (hd : AddOK C.length d) (hC : C.length < 60000) (hv : ∀ w', Sp w0 Ω w' → View (.int .i64) w' psl d.1) (hc : psl.len ≤ psl.cap) {K : Int × Value → World → Prop}
    (h : ∀ csl' cs' ts w', Sp w0 (ivs ts (C.map (fun x => x.1) ++ [d.1]) :: (Ω.set b (own yapi_Commit csl' cs')).set a (cel g [.slice csl'.a csl'.len csl'.cap])) w' → ts = cs'.map (fun x => x.1) → cs'.map (fun x => x.2) = C.map (fun x => x.2) ++ [d.2] → K ((C.length : Int), .nilIface) w') : C_history_Graph_Add (some ⟨g, 0, none⟩) (psl, d.2) K w := by
  apply S_history_Graph_Add
  unfold F_history_Graph_Add
  have hlC := G.len
  have hpl := (hv _ s).len
  have hfew := hd.few
  have hnote := hd.note
  have htext := hd.text
  refine s.allocK fun a1 w1 s => gd_f rfl (JoinP.inl (s.lds (x := psl) 0 0 rfl rfl (gd_f (decide_eq_false (by omega)) ⟨d.2.2, s.still 0 2 rfl rfl, gd_f (decide_eq_false (by omega)) (s.ldi (x := d.2.1) 0 1 rfl rfl ?_)⟩)))
  intro _
  refine gd_f (decide_eq_false (by omega)) (s.lds (x := psl) 0 0 rfl rfl ?_)
  refine loop_by (fun x => x.1) d.1.length (fun n _ w => Sp w0 (cel a1 (cells yapi_Commit (psl, d.2)) :: Ω) w) rfl s ?_
  clear s
  rintro n ⟨x, _⟩ w2 hn hx s _
  dsimp only at hx ⊢
  subst hx
  refine gd_dec (fun hlt => ?_) (fun hge => ?_)
  · have hn' : n < d.1.length := by omega
    have hget := List.getElem?_eq_getElem hn'
    have hp := hd.par _ (List.getElem_mem hn')
    generalize d.1[n] = y at hget hp
    refine (hv _ s.pop).idx rfl hget rfl fun q hq => ⟨y, hq, history_has_spec G.cons s ?_⟩
    rw [decide_eq_true hp]
    exact gd_f rfl (arith_i64 (by omega) (by omega) (loop_nx hn' s))
  refine s.lds (x := psl) 0 0 rfl rfl ?_
  refine loop_by (fun x => x.1) d.1.length (fun n _ w => Sp w0 (cel a1 (cells yapi_Commit (psl, d.2)) :: Ω) w) rfl s ?_
  clear s
  rintro n2 ⟨x, _⟩ w3 hn2 hx s _
  dsimp only at hx ⊢
  subst hx
  refine gd_dec (fun hlt => ?_) (fun hge2 => ?_)
  · have hn' : n2 < d.1.length := by omega
    have hget := List.getElem?_eq_getElem hn'
    refine (hv _ s.pop).idx rfl hget rfl fun q hq => ⟨_, hq, s.lds (x := psl) 0 0 rfl rfl ?_⟩
    refine View.part (ty := .int .i64) (xs := d.1) (l := 0) (h := n2) hpl (Or.inl ⟨rfl, rfl⟩) (Or.inr rfl) (by omega) (by omega) hc fun s20 v20 _ => ?_
    have v := v20 _ (hv _ s.pop)
    rw [List.drop_zero] at v
    refine slices_Contains_spec v (by rw [List.length_take]; omega) ?_
    have hno : d.1[n2] ∉ d.1.take n2 := fun hm => by
      obtain ⟨j, hj, e⟩ := List.getElem_of_mem hm
      rw [List.length_take] at hj
      rw [List.getElem_take] at e
      have := (List.getElem_inj (i := j) (j := n2) (h₀ := by omega) (h₁ := hn') hd.nodup).1 e
      omega
    rw [decide_eq_false hno]
    exact gd_f rfl (arith_i64 (by omega) (by omega) (loop_nx hn' s))
  have hcl := (s.view (b + 1) G.com).len
  refine nonNil_some (s.lds (x := csl) (a + 1) 0 G.cell rfl (gd_f (decide_eq_false (by omega)) (s.lds (x := psl) 0 0 rfl rfl ?_)))
  refine slices_Clone_spec s (fun w' s => hv _ s.pop) (by omega) fun ps w4 s => s.st 1 0 rfl rfl rfl fun w5 s => s.drawK fun w6 s => nonNil_some (s.lds (x := csl) (a + 2) 0 G.cell rfl (s.ld0 (ty := yapi_Commit) (x := (ps, d.2)) 1 rfl rfl (s.allocK fun a30 w7 s => ⟨s.still (a + 3) 0 G.cell rfl, ?_⟩)))
  have s : Sp w0 (cel a30 (cells yapi_Commit (ps, d.2)) :: own (.int .i64) ps d.1 :: cel a1 (cells yapi_Commit (ps, d.2)) :: Ω) w7 := s
  refine s.app (ty := yapi_Commit) (xs := cs) (ys := [(ps, d.2)]) (b + 3) G.com ((s.lit (ty := yapi_Commit) 0 rfl [(ps, d.2)] 1 rfl rfl).view 0 rfl) (by simp only [List.length_cons, List.length_nil]; omega) fun s31 w8 s => ?_
  have s : Sp w0 (cel a30 (cells yapi_Commit (ps, d.2)) :: own (.int .i64) ps d.1 :: cel a1 (cells yapi_Commit (ps, d.2)) :: Ω.set b (own yapi_Commit s31 (cs ++ [(ps, d.2)]))) w8 := s
  have hcell : (Ω.set b (own yapi_Commit s31 (cs ++ [(ps, d.2)])))[a]? = some (cel g [.slice csl.a csl.len csl.cap]) := setNe G.cell (Ne.symm hab)
  refine nonNil_some (s.st0 (a + 3) hcell rfl rfl fun w9 s => ?_)
  have s : Sp w0 (cel a30 (cells yapi_Commit (ps, d.2)) :: own (.int .i64) ps d.1 :: cel a1 (cells yapi_Commit (ps, d.2)) :: (Ω.set b (own yapi_Commit s31 (cs ++ [(ps, d.2)]))).set a (cel g [.slice s31.a s31.len s31.cap])) w9 := s
  have hcell2 : ((Ω.set b (own yapi_Commit s31 (cs ++ [(ps, d.2)]))).set a (cel g [.slice s31.a s31.len s31.cap]))[a]? = some (cel g [.slice s31.a s31.len s31.cap]) := setGet hcell
  have hcom2 : ((Ω.set b (own yapi_Commit s31 (cs ++ [(ps, d.2)]))).set a (cel g [.slice s31.a s31.len s31.cap]))[b]? = some (own yapi_Commit s31 (cs ++ [(ps, d.2)])) := setNe (setGet G.com) hab
  have hpar2 : ((Ω.set b (own yapi_Commit s31 (cs ++ [(ps, d.2)]))).set a (cel g [.slice s31.a s31.len s31.cap]))[c]? = some (ivs (cs.map fun x => x.1) (C.map fun x => x.1)) := setNe (setNe G.par hbc) hac
  have hl31 := (s.view (b + 3) hcom2).len
  refine nonNil_some (s.lds (x := s31) (a + 3) 0 hcell2 rfl ?_)
  have e31 : ((s31.len : Nat) : Int) - 1 = (C.length : Int) := by rw [hl31, List.length_append]; simp only [List.length_cons, List.length_nil]; omega
  refine arith_i64 (by omega) (by omega) ?_
  rw [e31]
  have s2 := Sp.ivs_add (s.pick [1] 3 rfl (by decide)) c hpar2
  refine h s31 (cs ++ [(ps, d.2)]) _ w9 s2 ?_ ?_
  · simp
  · rw [List.map_append, G.eq]; rfl

end Go.Proofs.YtnmgjpcooncjlaaGreat

/- Maps with 64-bit keys: their entries' stamps; updates, deletions, ranges. Generic: no statement, no project text. -/
set_option linter.unusedVariables false
set_option linter.unusedSimpArgs false
namespace Go.Den

variable {P : Program} {w0 w : World} {L : List Ob} {vt : Ty}

/-! ### Lists of pairs -/
section
variable {α : Type}
def mupd : List (Int × α) → Int → α → List (Int × α)
  | [], x, v => [(x, v)]
  | p :: m, x, v => if p.1 = x then (x, v) :: m else p :: mupd m x v
def mdel : List (Int × α) → Int → List (Int × α)
  | [], _ => []
  | p :: m, x => if p.1 = x then m else p :: mdel m x
/-- what is found under a key -/
def at? : List (Int × α) → Int → Option α
  | [], _ => none
  | p :: m, x => if p.1 = x then some p.2 else at? m x
theorem at_mupd : ∀ (m : List (Int × α)) (x : Int) (v : α) (y : Int), at? (mupd m x v) y = if x = y then some v else at? m y
  | [], x, v, y => rfl
  | p :: m, x, v, y => by
    unfold mupd
    by_cases h : p.1 = x
    · rw [if_pos h]
      simp only [at?]
      by_cases hy : x = y
      · rw [if_pos hy, if_pos hy]
      · rw [if_neg hy, if_neg hy, if_neg (by omega)]
    · rw [if_neg h]
      simp only [at?]
      rw [at_mupd m x v y]
      by_cases hy : x = y
      · rw [if_pos hy, if_neg (by omega)]
        rw [if_pos hy]
      · rw [if_neg hy, if_neg hy]
theorem at_none : ∀ {m : List (Int × α)} {x : Int}, at? m x = none ↔ x ∉ m.map (·.1)
  | [], x => by simp [at?]
  | p :: m, x => by
    simp only [at?, List.map_cons, List.mem_cons]
    by_cases h : p.1 = x
    · rw [if_pos h]; simp [h]
    · rw [if_neg h, at_none]
      simp [Ne.symm h]
theorem at_mdel : ∀ {m : List (Int × α)} (x y : Int), (m.map (·.1)).Nodup → at? (mdel m x) y = if x = y then none else at? m y
  | [], x, y, _ => by simp [mdel, at?]
  | p :: m, x, y, hn => by
    rw [List.map_cons, List.nodup_cons] at hn
    unfold mdel
    by_cases h : p.1 = x
    · rw [if_pos h]
      by_cases hy : x = y
      · rw [if_pos hy, ← hy, ← h]
        exact at_none.2 hn.1
      · rw [if_neg hy]
        simp only [at?]
        rw [if_neg (by omega)]
    · rw [if_neg h]
      simp only [at?]
      rw [at_mdel x y hn.2]
      by_cases hy : x = y
      · rw [if_pos hy, if_neg (by omega), if_pos hy]
      · rw [if_neg hy, if_neg hy]
theorem keys_mupd : ∀ (m : List (Int × α)) (x : Int) (v : α) (y : Int), y ∈ (mupd m x v).map (·.1) ↔ y = x ∨ y ∈ m.map (·.1)
  | [], x, v, y => by simp [mupd]
  | p :: m, x, v, y => by
    unfold mupd
    by_cases h : p.1 = x
    · rw [if_pos h]; simp [h]
    · rw [if_neg h]
      have := keys_mupd m x v y
      simp only [List.map_cons, List.mem_cons, this]
      constructor
      · rintro (h | h | h)
        · exact Or.inr (Or.inl h)
        · exact Or.inl h
        · exact Or.inr (Or.inr h)
      · rintro (h | h | h)
        · exact Or.inr (Or.inl h)
        · exact Or.inl h
        · exact Or.inr (Or.inr h)
theorem nodup_mupd : ∀ (m : List (Int × α)) (x : Int) (v : α), (m.map (·.1)).Nodup → ((mupd m x v).map (·.1)).Nodup
  | [], x, v, _ => by simp [mupd]
  | p :: m, x, v, hn => by
    rw [List.map_cons, List.nodup_cons] at hn
    unfold mupd
    by_cases h : p.1 = x
    · rw [if_pos h, List.map_cons, List.nodup_cons]
      exact ⟨h ▸ hn.1, hn.2⟩
    · rw [if_neg h, List.map_cons, List.nodup_cons]
      refine ⟨fun hm => ?_, nodup_mupd m x v hn.2⟩
      rcases (keys_mupd m x v p.1).1 hm with h' | h'
      · exact h h'
      · exact hn.1 h'
theorem keys_mdel : ∀ {m : List (Int × α)} (x y : Int), (m.map (·.1)).Nodup → (y ∈ (mdel m x).map (·.1) ↔ y ≠ x ∧ y ∈ m.map (·.1)) := fun {m} x y hn => by
  have h1 := at_mdel x y hn
  have h2 := at_none (m := mdel m x) (x := y)
  have h3 := at_none (m := m) (x := y)
  by_cases hy : x = y
  · rw [if_pos hy] at h1
    have := h2.1 h1
    exact ⟨fun h => absurd h this, fun h => absurd hy.symm h.1⟩
  · rw [if_neg hy] at h1
    rw [h1] at h2
    constructor
    · intro h
      refine ⟨Ne.symm hy, ?_⟩
      apply Classical.byContradiction
      intro hc
      exact h2.1 (h3.2 hc) h
    · intro h
      apply Classical.byContradiction
      intro hc
      exact h3.1 (h2.2 hc) h.2
theorem mdel_sub : ∀ (m : List (Int × α)) (x : Int), (mdel m x).Sublist m
  | [], x => List.Sublist.slnil
  | p :: m, x => by
    unfold mdel
    by_cases h : p.1 = x
    · rw [if_pos h]; exact List.sublist_cons_self _ _
    · rw [if_neg h]; exact (mdel_sub m x).cons_cons _
theorem nodup_mdel (m : List (Int × α)) (x : Int) (hn : (m.map (·.1)).Nodup) : ((mdel m x).map (·.1)).Nodup := List.Nodup.sublist ((mdel_sub m x).map _) hn
end
theorem lk_at : ∀ (m : List ((Ty.int .i64).T × vt.T)) (x : Int), lk (kt := .int .i64) (vt := vt) m x = at? m x
  | [], x => rfl
  | p :: m, x => by
    have ih := lk_at m x
    unfold lk at ih ⊢
    rw [List.find?_cons]
    simp only [at?]
    by_cases h : p.1 = x
    · have : beqT (.int .i64) x p.1 = true := (beqT_iff (.int .i64) rfl _ _).2 h.symm
      rw [this, if_pos h]; rfl
    · have : beqT (.int .i64) x p.1 = false := by
        cases e : beqT (.int .i64) x p.1
        · rfl
        · exact absurd ((beqT_iff (.int .i64) rfl _ _).1 e).symm h
      rw [this, if_neg h]; exact ih

/-! ### Maps in memory -/
abbrev PairOf (vt : Ty) (m : List (Int × vt.T)) : List (Value × Value) := m.map fun p => (Value.int .i64 p.1, val vt p.2)
def MapC (vt : Ty) (w : World) (r : Nat) (m : List (Int × vt.T)) : Prop :=
  ∃ (arr : Array MapEntry) (clock : Nat), w.heap[r]? = some (.map arr clock) ∧ arr.toList.map (fun e => (e.key, e.val)) = PairOf vt m ∧ (arr.toList.map (·.born)).Nodup ∧ (∀ e ∈ arr.toList, e.born < clock) ∧ (m.map (·.1)).Nodup
theorem MapC.is {r : Nat} {m : List (Int × vt.T)} (h : MapC vt w r m) : MapIs (.int .i64) vt w r m := by
  obtain ⟨arr, clock, h1, h2, _⟩ := h
  exact ⟨arr, clock, h1, h2⟩
theorem MapC.nodup {r : Nat} {m : List (Int × vt.T)} (h : MapC vt w r m) : (m.map (·.1)).Nodup := by
  obtain ⟨arr, clock, _, _, _, _, h⟩ := h
  exact h
theorem MapC.lt {r : Nat} {m : List (Int × vt.T)} (h : MapC vt w r m) : r < w.heap.size := h.is.lt
theorem MapC.fr {F : Nat → Prop} {w' : World} {r : Nat} {m : List (Int × vt.T)} (h : MapC vt w r m) (f : Fr F w w') (hF : ¬ F r) : MapC vt w' r m := by
  have hl := h.lt
  obtain ⟨arr, clock, h1, h2⟩ := h
  exact ⟨arr, clock, by rw [f.same r hl hF]; exact h1, h2⟩
def mc (vt : Ty) (r : Nat) (m : List (Int × vt.T)) : Ob := ⟨false, fun B w => MapC vt w r m ∧ B r, fun h f hB => ⟨h.1.fr f (hB _ h.2), h.2⟩⟩
theorem Sp.mc_ {r : Nat} {m : List (Int × vt.T)} (s : Sp w0 L w) (i : Nat) (h : L[i]? = some (mc vt r m)) : MapC vt w r m := by
  obtain ⟨B, h, _⟩ := s.get i h
  exact h.1
theorem Sp.allocC {K : Addr → World → Prop} (s : Sp w0 L w) (vt : Ty) (hK : ∀ r w', Sp w0 (mc vt r [] :: L) w' → K ⟨r, 0, none⟩ w') : Go.Den.allocK (.map #[] 0) w K := by
  refine allocK_mk (hK _ _ (s.push (B := fun b => b = w.heap.size) (alloc_ext w _) ⟨⟨#[], 0, alloc_new w _, rfl, List.nodup_nil, fun e h => by simp at h, List.nodup_nil⟩, rfl⟩ ?_))
  rintro b rfl
  exact ⟨Nat.le_refl _, by simp⟩
theorem MapC.get {d : Nat} {t k e : TypeId} (hd : d ≤ 10000) (hu : P.underlying t = some (.map k e)) (hk : eqOK P d k (.int .i64) = true) {z : vt.T} (hz : zeroOf P e = some (val vt z))
    {r : Nat} {m : List (Int × vt.T)} (h : MapC vt w r m) (x : Int) : Lk1 P t vt (.map (some r)) (.int .i64 x) ((at? m x).getD z) w := by
  have := lk1_run hd hu hk (by simp) hz h.is x
  rwa [lk_at] at this
theorem MapC.len {r : Nat} {m : List (Int × vt.T)} (h : MapC vt w r m) : mapLen w (some r) m.length := by
  obtain ⟨arr, clock, h1, h2, _⟩ := h
  have := congrArg List.length h2
  simp only [List.length_map, Array.length_toList] at this
  exact ⟨arr, clock, h1, this.symm⟩

theorem mupd_fnd (x : Int) (v : vt.T) : ∀ (ls : List MapEntry) (m : List (Int × vt.T)) (j : Nat), ls.map (fun e => (e.key, e.val)) = PairOf vt m →
    (fnd (.int .i64) x ls (m.map (·.1)) j = none ∧ mupd m x v = m ++ [(x, v)] ∧ mdel m x = m) ∨
    ∃ (i : Nat) (u : Value) (e : MapEntry), fnd (.int .i64) x ls (m.map (·.1)) j = some (j + i, u) ∧ ls[i]? = some e ∧ e.key = .int .i64 x ∧
      (ls.modify i fun e => { e with key := .int .i64 x, val := val vt v }).map (fun e => (e.key, e.val)) = PairOf vt (mupd m x v) ∧ (ls.eraseIdx i).map (fun e => (e.key, e.val)) = PairOf vt (mdel m x)
  | [], [], j, _ => Or.inl ⟨rfl, rfl, rfl⟩
  | [], _ :: _, j, h => by simp at h
  | _ :: _, [], j, h => by simp at h
  | e :: ls, p :: m, j, h => by
    simp only [List.map_cons, List.cons.injEq, Prod.mk.injEq] at h
    by_cases hp : p.1 = x
    · right
      have hb : beqT (.int .i64) x p.1 = true := (beqT_iff (.int .i64) rfl _ _).2 hp.symm
      refine ⟨0, e.val, e, ?_, rfl, by rw [h.1.1, hp], ?_, ?_⟩
      · simp only [List.map_cons, fnd]
        rw [hb]; rfl
      · simp only [mupd, if_pos hp, List.modify_zero_cons, List.map_cons]
        rw [h.2]
      · simp only [mdel, if_pos hp, List.eraseIdx_zero, List.tail_cons]
        exact h.2
    · have hb : beqT (.int .i64) x p.1 = false := by
        cases e : beqT (.int .i64) x p.1
        · rfl
        · exact absurd ((beqT_iff (.int .i64) rfl _ _).1 e).symm hp
      rcases mupd_fnd x v ls m (j + 1) h.2 with ⟨h1, h2, h3⟩ | ⟨i, u, e', h1, h2, h3, h4, h5⟩
      · left
        refine ⟨?_, by simp only [mupd, if_neg hp, h2, List.cons_append], by simp only [mdel, if_neg hp, h3]⟩
        simp only [List.map_cons, fnd]
        rw [hb]; exact h1
      · right
        refine ⟨i + 1, u, e', ?_, by rw [List.getElem?_cons_succ]; exact h2, h3, ?_, ?_⟩
        · simp only [List.map_cons, fnd]
          rw [hb]
          show fnd (.int .i64) x ls (m.map (·.1)) (j + 1) = _
          rw [h1, show j + 1 + i = j + (i + 1) by omega]
        · simp only [mupd, if_neg hp, List.modify_succ_cons, List.map_cons]
          rw [h4, h.1.1, h.1.2]
        · simp only [mdel, if_neg hp, List.eraseIdx_cons_succ, List.map_cons]
          rw [h5, h.1.1, h.1.2]
theorem born_modify (f : MapEntry → MapEntry) (hf : ∀ e, (f e).born = e.born) : ∀ (ls : List MapEntry) (i : Nat), (ls.modify i f).map (·.born) = ls.map (·.born)
  | [], i => by cases i <;> rfl
  | e :: ls, 0 => by simp [hf]
  | e :: ls, i + 1 => by simp [born_modify f hf ls i]

theorem Sp.upC {d : Nat} {t k e : TypeId} {r : Nat} {m : List (Int × vt.T)} {K : World → Prop} (s : Sp w0 L w) (i : Nat) (h : L[i]? = some (mc vt r m)) (hd : d ≤ 10000) (hu : P.underlying t = some (.map k e)) (hk : eqOK P d k (.int .i64) = true)
    (x : Int) (v : vt.T) (hK : ∀ w', Sp w0 (L.set i (mc vt r (mupd m x v))) w' → K w') : runU P (Instr.mapUpdate t (.map (some r)) (.int .i64 x) (val vt v)) w K := by
  obtain ⟨B, ⟨mm, hB⟩, hlt, back⟩ := s.open i h rfl
  have hr := mm.lt
  obtain ⟨arr, clock, h1, h2, h3, h4, h5⟩ := mm
  have hg : (getObj r).run P w = .ok (.map arr clock) w := MapKept.run_getObj_map h1
  have hf := findKey_run (w := w) hd hk (by simp) x arr.toList (m.map (·.1)) (keys_of (kt := .int .i64) (vt := vt) h2)
  have hck : (Instr.checkKey false 10000 k (val (.int .i64) x)).run P w = .ok () w := checkKey_run d 10000 hd k (.int .i64) hk x false w
  have fin : ∀ (arr' : Array MapEntry) (clock' : Nat), arr'.toList.map (fun e => (e.key, e.val)) = PairOf vt (mupd m x v) → (arr'.toList.map (·.born)).Nodup → (∀ e ∈ arr'.toList, e.born < clock') → K { w with heap := w.heap.setIfInBounds r (.map arr' clock') } := fun arr' clock' q1 q2 q3 => by
    refine hK _ (back _ B _ ⟨⟨arr', clock', by simp [hr], q1, q2, q3, nodup_mupd m x v h5⟩, hB⟩ ⟨by simp, fun b _ hb => ?_, rfl, rfl, rfl⟩ (fun _ h => Or.inl h) fun b hb => by simpa using (hlt b hb).2)
    have : r ≠ b := fun e => hb (e ▸ hB)
    simp [Array.getElem?_setIfInBounds, this]
  rcases mupd_fnd x v arr.toList m 0 h2 with ⟨q1, q2, _⟩ | ⟨j, u, e', q1, q2, q3, q4, _⟩
  · refine ⟨_, ?_, fin (arr.push { key := .int .i64 x, val := val vt v, born := clock }) (clock + 1) ?_ ?_ ?_⟩
    · show (Instr.mapUpdate t (.map (some r)) (val (.int .i64) x) (val vt v)).run P w = _
      unfold Instr.mapUpdate
      simp only [Sem.run_bind, run_underlying hu, Result.andThen_ok, hg, hck, hf, q1]
      simp [MapKept.run_setObj_map _ h1, val]
    · rw [Array.toList_push, List.map_append, h2, q2]; simp
    · rw [Array.toList_push, List.map_append, List.nodup_append]
      refine ⟨h3, by simp, fun a ha b hb => ?_⟩
      simp at hb
      subst hb
      obtain ⟨e, he, rfl⟩ := List.mem_map.1 ha
      have := h4 e he
      omega
    · intro e he
      rw [Array.toList_push] at he
      rcases List.mem_append.1 he with he | he
      · have := h4 e he; omega
      · simp at he; subst he; exact Nat.lt_succ_self _
  · have harr : arr[j]? = some e' := by rw [← Array.getElem?_toList]; exact q2
    refine ⟨_, ?_, fin (arr.modify j fun e => { e with key := .int .i64 x, val := val vt v }) clock ?_ ?_ ?_⟩
    · show (Instr.mapUpdate t (.map (some r)) (val (.int .i64) x) (val vt v)).run P w = _
      unfold Instr.mapUpdate
      simp only [Sem.run_bind, run_underlying hu, Result.andThen_ok, hg, hck, hf, q1]
      simp [MapKept.run_setObj_map _ h1, val, harr, q3, Instr.keyThatStays, Instr.sameBits]
    · rw [Array.toList_modify, q4]
    · rw [Array.toList_modify, born_modify (fun e => { e with key := .int .i64 x, val := val vt v }) (fun _ => rfl)]
      exact h3
    · intro e he
      rw [Array.toList_modify] at he
      have : e.born ∈ (arr.toList.modify j fun e => { e with key := .int .i64 x, val := val vt v }).map (·.born) := List.mem_map.2 ⟨e, he, rfl⟩
      rw [born_modify (fun e => { e with key := .int .i64 x, val := val vt v }) (fun _ => rfl)] at this
      obtain ⟨e2, he2, hb2⟩ := List.mem_map.1 this
      have := h4 e2 he2
      omega
theorem Sp.delC {d : Nat} {t k e : TypeId} {r : Nat} {m : List (Int × vt.T)} {ty : TypeId} {K : Unit → World → Prop} {t2 : TypeId} (v : vt.T) (s : Sp w0 L w) (i : Nat) (h : L[i]? = some (mc vt r m)) (hd : d ≤ 10000) (hu : P.underlying t = some (.map k e)) (hk : eqOK P d k (.int .i64) = true)
    (x : Int) (hK : ∀ w', Sp w0 (L.set i (mc vt r (mdel m x))) w' → K () w') : runK P (.tup .unit) (Builtin.delete_ #[t, t2] ty #[.map (some r), .int .i64 x]) w K := by
  obtain ⟨B, ⟨mm, hB⟩, hlt, back⟩ := s.open i h rfl
  have hr := mm.lt
  obtain ⟨arr, clock, h1, h2, h3, h4, h5⟩ := mm
  have hg : (getObj r).run P w = .ok (.map arr clock) w := MapKept.run_getObj_map h1
  have hf := findKey_run (w := w) hd hk (by simp) x arr.toList (m.map (·.1)) (keys_of (kt := .int .i64) (vt := vt) h2)
  have hck : (Instr.checkKey arr.isEmpty 10000 k (val (.int .i64) x)).run P w = .ok () w := checkKey_run d 10000 hd k (.int .i64) hk x _ w
  have fin : ∀ (arr' : Array MapEntry), arr'.toList.map (fun e => (e.key, e.val)) = PairOf vt (mdel m x) → (arr'.toList.map (·.born)).Nodup → (∀ e ∈ arr'.toList, e.born < clock) → K () { w with heap := w.heap.setIfInBounds r (.map arr' clock) } := fun arr' q1 q2 q3 => by
    refine hK _ (back _ B _ ⟨⟨arr', clock, by simp [hr], q1, q2, q3, nodup_mdel m x h5⟩, hB⟩ ⟨by simp, fun b _ hb => ?_, rfl, rfl, rfl⟩ (fun _ h => Or.inl h) fun b hb => by simpa using (hlt b hb).2)
    have : r ≠ b := fun e => hb (e ▸ hB)
    simp [Array.getElem?_setIfInBounds, this]
  rcases mupd_fnd x v arr.toList m 0 h2 with ⟨q1, _, q2⟩ | ⟨j, u, e', q1, q2, q3, _, q5⟩
  · refine ⟨(), _, ?_, fin arr (by rw [q2]; exact h2) h3 h4⟩
    show (Builtin.delete_ #[t, t2] ty #[.map (some r), val (.int .i64) x]).run P w = _
    unfold Builtin.delete_
    simp only [List.getElem?_toArray, List.getElem?_cons_zero, List.getElem?_cons_succ, Sem.run_bind, run_underlying hu, Result.andThen_ok, hg, hck, hf, q1]
    simp [MapKept.run_setObj_map _ h1, val, vals]
  · refine ⟨(), _, ?_, fin (arr.eraseIdxIfInBounds j) ?_ ?_ ?_⟩
    · show (Builtin.delete_ #[t, t2] ty #[.map (some r), val (.int .i64) x]).run P w = _
      unfold Builtin.delete_
      simp only [List.getElem?_toArray, List.getElem?_cons_zero, List.getElem?_cons_succ, Sem.run_bind, run_underlying hu, Result.andThen_ok, hg, hck, hf, q1]
      simp [MapKept.run_setObj_map _ h1, val, vals]
    · rw [Array.toList_eraseIdxIfInBounds]; exact q5
    · rw [Array.toList_eraseIdxIfInBounds]
      exact List.Nodup.sublist ((List.eraseIdx_sublist _ _).map _) h3
    · intro e he
      rw [Array.toList_eraseIdxIfInBounds] at he
      exact h4 e ((List.eraseIdx_sublist _ _).subset he)

/-! ### Ranges -/
/-- a map whose entries are told -/
def mx (b : Nat) (arr : Array MapEntry) (clock : Nat) : Ob := ⟨false, fun B w => w.heap[b]? = some (.map arr clock) ∧ B b, fun {B F w w'} h f hB => ⟨by rw [f.same b (Array.getElem?_eq_some_iff.1 h.1).1 (hB _ h.2)]; exact h.1, h.2⟩⟩
/-- an iterator over the map b -/
def itr (r b since : Nat) (seen : Array Nat) : Ob := ⟨false, fun B w => (∃ c, since ≤ c ∧ w.heap[r]? = some (.mapIter (some b) since seen c)) ∧ B r, fun {B F w w'} h f hB => by
  obtain ⟨⟨c, h1, h2⟩, h3⟩ := h
  exact ⟨⟨c, h1, by rw [f.same r (Array.getElem?_eq_some_iff.1 h2).1 (hB _ h3)]; exact h2⟩, h3⟩⟩
/-- the entries of a map, told -/
structure Told_ (vt : Ty) (m : List (Int × vt.T)) (arr : Array MapEntry) (clock : Nat) : Prop where
  eq : arr.toList.map (fun e => (e.key, e.val)) = PairOf vt m
  born : (arr.toList.map (·.born)).Nodup
  old : ∀ e ∈ arr.toList, e.born < clock
  keys : (m.map (·.1)).Nodup
theorem Sp.tell {r : Nat} {m : List (Int × vt.T)} (s : Sp w0 L w) (i : Nat) (h : L[i]? = some (mc vt r m)) : ∃ arr clock, Told_ vt m arr clock ∧ Sp w0 (L.set i (mx r arr clock)) w := by
  obtain ⟨arr, clock, h1, h2, h3, h4, h5⟩ := s.mc_ i h
  exact ⟨arr, clock, ⟨h2, h3, h4, h5⟩, s.weak i h _ (fun B hP _ => ⟨B, ⟨h1, hP.2⟩, fun _ h => h⟩) (fun h => h)⟩
theorem Sp.untell {r : Nat} {m : List (Int × vt.T)} {arr : Array MapEntry} {clock : Nat} (t : Told_ vt m arr clock) (s : Sp w0 L w) (i : Nat) (h : L[i]? = some (mx r arr clock)) : Sp w0 (L.set i (mc vt r m)) w :=
  s.weak i h _ (fun B hP _ => ⟨B, ⟨⟨arr, clock, hP.1, t.eq, t.born, t.old, t.keys⟩, hP.2⟩, fun _ h => h⟩) (fun h => h)
theorem Sp.mx_ {b : Nat} {arr : Array MapEntry} {clock : Nat} (s : Sp w0 L w) (i : Nat) (h : L[i]? = some (mx b arr clock)) : w.heap[b]? = some (.map arr clock) := by
  obtain ⟨B, h, _⟩ := s.get i h
  exact h.1
theorem Sp.rangeC {t k e : TypeId} {b : Nat} {arr : Array MapEntry} {clock : Nat} {K : Addr → World → Prop} (s : Sp w0 L w) (i : Nat) (h : L[i]? = some (mx b arr clock)) (hu : P.underlying t = some (.map k e))
    (hK : ∀ r w', Sp w0 (itr r b clock #[] :: L) w' → K ⟨r, 0, none⟩ w') : runK P .addr (Instr.range t (.map (some b))) w K := by
  refine ⟨⟨w.heap.size, 0, none⟩, _, run_range_map w t k e b arr clock hu (s.mx_ i h), hK _ _ (s.push (B := fun b => b = w.heap.size) (alloc_ext w _) ⟨⟨clock, Nat.le_refl _, alloc_new w _⟩, rfl⟩ ?_)⟩
  rintro b rfl
  exact ⟨Nat.le_refl _, by simp⟩
/-- one round of a range, or its end -/
theorem Sp.roundC {b r : Nat} {arr : Array MapEntry} {clock : Nat} {m : List (Int × vt.T)} {seen : Array Nat} {ty : TypeId} {A : World → Prop} {B : Int → World → Prop} (t : Told_ vt m arr clock) (s : Sp w0 L w) (i j : Nat) (hi : L[i]? = some (itr r b clock seen)) (hj : L[j]? = some (mx b arr clock))
    (hend : (∀ e ∈ arr.toList, e.born ∈ seen.toList) → A w) (hrnd : ∀ (e : MapEntry) (k : Int) w', e ∈ arr.toList → e.born ∉ seen.toList → e.key = .int .i64 k → Sp w0 (L.set i (itr r b clock (seen.push e.born))) w' → B k w') :
    ∃ (bb : Bool) (vs : List Value) (w5 : World), (Instr.next (.pointer (some ⟨r, 0, none⟩)) false ty).run P w = .ok (.tuple (Value.bool bb :: vs).toArray) w5 ∧
      gd bb (∃ (k : Int) (v : Value) (w6 : World), (Instr.entry (.pointer (some ⟨r, 0, none⟩))).run P w5 = .ok (.tuple #[.int .i64 k, v]) w6 ∧ B k w6) (A w5) := by
  obtain ⟨Bi, ⟨⟨c, hc1, hc2⟩, hBi⟩, hlt, back⟩ := s.open i hi rfl
  have hb := s.mx_ j hj
  rcases run_next_at (P := P) w ty r b clock c seen arr clock hc2 hb t.old hc1 with ⟨h0, hrun⟩ | ⟨e, he, w1, hw1, hrun⟩
  · refine ⟨false, [], w, hrun, hend fun e he => ?_⟩
    apply Classical.byContradiction
    intro hn
    have hm : e ∈ leftOf arr seen := by
      unfold leftOf
      rw [Array.mem_filter]
      exact ⟨Array.mem_toList_iff.1 he, by simpa [Array.mem_toList_iff] using hn⟩
    have : leftOf arr seen = #[] := Array.eq_empty_of_size_eq_zero h0
    rw [this] at hm
    simp at hm
  · have hm : e ∈ arr ∧ ¬ (e.born ∈ seen) := by
      have h := Array.mem_toList_iff.1 he
      unfold leftOf at h
      rw [Array.mem_filter] at h
      simpa using h
    have hmem : e ∈ arr.toList := Array.mem_toList_iff.2 hm.1
    obtain ⟨k, hk⟩ : ∃ k : Int, e.key = .int .i64 k := by
      have h1 : (e.key, e.val) ∈ arr.toList.map (fun e => (e.key, e.val)) := List.mem_map.2 ⟨e, hmem, rfl⟩
      rw [t.eq] at h1
      obtain ⟨p, _, hp⟩ := List.mem_map.1 h1
      exact ⟨p.1, (congrArg Prod.fst hp).symm⟩
    have hsz : r < w1.heap.size := by
      have := (Array.getElem?_eq_some_iff.1 hc2).1
      rcases hw1 with rfl | rfl <;> exact this
    have hw1h : w1.heap = w.heap := by rcases hw1 with rfl | rfl <;> rfl
    have hF : Fr (fun x => x = r) w (ChangeMaps.setBlock w1 r (.mapIter (some b) clock (seen.push e.born) clock)) := by
      refine ⟨?_, fun x _ hx => ?_, ?_⟩
      · unfold ChangeMaps.setBlock; simp [hw1h]
      · unfold ChangeMaps.setBlock
        have : r ≠ x := fun h => hx h.symm
        simp [Array.getElem?_setIfInBounds, this, hw1h]
      · rcases hw1 with rfl | rfl <;> exact ⟨rfl, rfl, rfl⟩
    have hr' : (ChangeMaps.setBlock w1 r (.mapIter (some b) clock (seen.push e.born) clock)).heap[r]? = some (.mapIter (some b) clock (seen.push e.born) clock) := by
      unfold ChangeMaps.setBlock; simp [hsz]
    have s' := back (itr r b clock (seen.push e.born)) Bi _ ⟨⟨clock, Nat.le_refl _, hr'⟩, hBi⟩ (hF.mono fun x _ hx => hx ▸ hBi) (fun _ h => Or.inl h) (fun x hx => Nat.lt_of_lt_of_le (hlt x hx).2 hF.size)
    have hne : i ≠ j := fun h => by
      subst h
      rw [hi] at hj
      have := Option.some.inj hj
      have h2 := s.mx_ i (by rw [hi, this])
      rw [this] at hi
      obtain ⟨_, ⟨⟨c', _, h3⟩, _⟩, _⟩ := s.get i (this ▸ hi : L[i]? = some (itr r b clock seen))
      rw [hc2] at h3
      have e1 : (itr r b clock seen).P = (mx b arr clock).P := by rw [this]
      have e2 := congrFun (congrFun e1 (fun _ => True)) w
      have e3 : (mx b arr clock).P (fun _ => True) w := ⟨hb, trivial⟩
      rw [← e2] at e3
      have e4 : (itr r b clock seen).P (fun x => x = r) w := ⟨⟨c, hc1, hc2⟩, rfl⟩
      rw [congrFun (congrFun e1 (fun x => x = r)) w] at e4
      have hbr : b = r := e4.2
      rw [hbr, hc2] at hb
      cases hb
    have hb' := s'.mx_ j (setNe hj hne)
    refine ⟨true, [e.key, e.val], _, hrun, ?_⟩
    refine ⟨k, e.val, _, ?_, hrnd e k _ hmem (fun h => hm.2 (Array.mem_toList_iff.1 h)) hk s'⟩
    rw [← hk]
    exact run_entry_at _ r b clock seen arr clock e hr' hb' hmem t.born

end Go.Den

/- Maps whose keys are strings: as XMapC. Generic: no statement, no project text. -/
set_option linter.unusedVariables false
set_option linter.unusedSimpArgs false
namespace Go.Den

variable {P : Program} {w0 w : World} {L : List Ob} {vt : Ty}

/-! ### Lists of pairs -/
section
variable {α : Type}
def mupdS : List (ByteArray × α) → ByteArray → α → List (ByteArray × α)
  | [], x, v => [(x, v)]
  | p :: m, x, v => if p.1 = x then (x, v) :: m else p :: mupdS m x v
def mdelS : List (ByteArray × α) → ByteArray → List (ByteArray × α)
  | [], _ => []
  | p :: m, x => if p.1 = x then m else p :: mdelS m x
/-- what is found under a key -/
def atS? : List (ByteArray × α) → ByteArray → Option α
  | [], _ => none
  | p :: m, x => if p.1 = x then some p.2 else atS? m x
theorem atS_mupd : ∀ (m : List (ByteArray × α)) (x : ByteArray) (v : α) (y : ByteArray), atS? (mupdS m x v) y = if x = y then some v else atS? m y
  | [], x, v, y => rfl
  | p :: m, x, v, y => by
    unfold mupdS
    by_cases h : p.1 = x
    · rw [if_pos h]
      simp only [atS?]
      by_cases hy : x = y
      · rw [if_pos hy, if_pos hy]
      · rw [if_neg hy, if_neg hy, if_neg (fun e => hy (h.symm.trans e))]
    · rw [if_neg h]
      simp only [atS?]
      rw [atS_mupd m x v y]
      by_cases hy : x = y
      · rw [if_pos hy, if_neg (fun e => h (e.trans hy.symm))]
        rw [if_pos hy]
      · rw [if_neg hy, if_neg hy]
theorem atS_none : ∀ {m : List (ByteArray × α)} {x : ByteArray}, atS? m x = none ↔ x ∉ m.map (·.1)
  | [], x => by simp [atS?]
  | p :: m, x => by
    simp only [atS?, List.map_cons, List.mem_cons]
    by_cases h : p.1 = x
    · rw [if_pos h]; simp [h]
    · rw [if_neg h, atS_none]
      simp [Ne.symm h]
theorem atS_mdel : ∀ {m : List (ByteArray × α)} (x y : ByteArray), (m.map (·.1)).Nodup → atS? (mdelS m x) y = if x = y then none else atS? m y
  | [], x, y, _ => by simp [mdelS, atS?]
  | p :: m, x, y, hn => by
    rw [List.map_cons, List.nodup_cons] at hn
    unfold mdelS
    by_cases h : p.1 = x
    · rw [if_pos h]
      by_cases hy : x = y
      · rw [if_pos hy, ← hy, ← h]
        exact atS_none.2 hn.1
      · rw [if_neg hy]
        simp only [atS?]
        rw [if_neg (fun e => hy (h.symm.trans e))]
    · rw [if_neg h]
      simp only [atS?]
      rw [atS_mdel x y hn.2]
      by_cases hy : x = y
      · rw [if_pos hy, if_neg (fun e => h (e.trans hy.symm)), if_pos hy]
      · rw [if_neg hy, if_neg hy]
theorem keysS_mupd : ∀ (m : List (ByteArray × α)) (x : ByteArray) (v : α) (y : ByteArray), y ∈ (mupdS m x v).map (·.1) ↔ y = x ∨ y ∈ m.map (·.1)
  | [], x, v, y => by simp [mupdS]
  | p :: m, x, v, y => by
    unfold mupdS
    by_cases h : p.1 = x
    · rw [if_pos h]; simp [h]
    · rw [if_neg h]
      have := keysS_mupd m x v y
      simp only [List.map_cons, List.mem_cons, this]
      constructor
      · rintro (h | h | h)
        · exact Or.inr (Or.inl h)
        · exact Or.inl h
        · exact Or.inr (Or.inr h)
      · rintro (h | h | h)
        · exact Or.inr (Or.inl h)
        · exact Or.inl h
        · exact Or.inr (Or.inr h)
theorem nodupS_mupd : ∀ (m : List (ByteArray × α)) (x : ByteArray) (v : α), (m.map (·.1)).Nodup → ((mupdS m x v).map (·.1)).Nodup
  | [], x, v, _ => by simp [mupdS]
  | p :: m, x, v, hn => by
    rw [List.map_cons, List.nodup_cons] at hn
    unfold mupdS
    by_cases h : p.1 = x
    · rw [if_pos h, List.map_cons, List.nodup_cons]
      exact ⟨h ▸ hn.1, hn.2⟩
    · rw [if_neg h, List.map_cons, List.nodup_cons]
      refine ⟨fun hm => ?_, nodupS_mupd m x v hn.2⟩
      rcases (keysS_mupd m x v p.1).1 hm with h' | h'
      · exact h h'
      · exact hn.1 h'
theorem keysS_mdel : ∀ {m : List (ByteArray × α)} (x y : ByteArray), (m.map (·.1)).Nodup → (y ∈ (mdelS m x).map (·.1) ↔ y ≠ x ∧ y ∈ m.map (·.1)) := fun {m} x y hn => by
  have h1 := atS_mdel x y hn
  have h2 := atS_none (m := mdelS m x) (x := y)
  have h3 := atS_none (m := m) (x := y)
  by_cases hy : x = y
  · rw [if_pos hy] at h1
    have := h2.1 h1
    exact ⟨fun h => absurd h this, fun h => absurd hy.symm h.1⟩
  · rw [if_neg hy] at h1
    rw [h1] at h2
    constructor
    · intro h
      refine ⟨Ne.symm hy, ?_⟩
      apply Classical.byContradiction
      intro hc
      exact h2.1 (h3.2 hc) h
    · intro h
      apply Classical.byContradiction
      intro hc
      exact h3.1 (h2.2 hc) h.2
theorem mdelS_sub : ∀ (m : List (ByteArray × α)) (x : ByteArray), (mdelS m x).Sublist m
  | [], x => List.Sublist.slnil
  | p :: m, x => by
    unfold mdelS
    by_cases h : p.1 = x
    · rw [if_pos h]; exact List.sublist_cons_self _ _
    · rw [if_neg h]; exact (mdelS_sub m x).cons_cons _
theorem nodupS_mdel (m : List (ByteArray × α)) (x : ByteArray) (hn : (m.map (·.1)).Nodup) : ((mdelS m x).map (·.1)).Nodup := List.Nodup.sublist ((mdelS_sub m x).map _) hn
end
theorem lkS_at : ∀ (m : List (Ty.str.T × vt.T)) (x : ByteArray), lk (kt := .str) (vt := vt) m x = atS? m x
  | [], x => rfl
  | p :: m, x => by
    have ih := lkS_at m x
    unfold lk at ih ⊢
    rw [List.find?_cons]
    simp only [atS?]
    by_cases h : p.1 = x
    · have : beqT .str x p.1 = true := (beqT_iff .str rfl _ _).2 h.symm
      rw [this, if_pos h]; rfl
    · have : beqT .str x p.1 = false := by
        cases e : beqT .str x p.1
        · rfl
        · exact absurd ((beqT_iff .str rfl _ _).1 e).symm h
      rw [this, if_neg h]; exact ih

/-! ### Maps in memory -/
abbrev PairS (vt : Ty) (m : List (ByteArray × vt.T)) : List (Value × Value) := m.map fun p => (Value.string p.1, val vt p.2)
def MapS (vt : Ty) (w : World) (r : Nat) (m : List (ByteArray × vt.T)) : Prop :=
  ∃ (arr : Array MapEntry) (clock : Nat), w.heap[r]? = some (.map arr clock) ∧ arr.toList.map (fun e => (e.key, e.val)) = PairS vt m ∧ (arr.toList.map (·.born)).Nodup ∧ (∀ e ∈ arr.toList, e.born < clock) ∧ (m.map (·.1)).Nodup
theorem MapS.is {r : Nat} {m : List (ByteArray × vt.T)} (h : MapS vt w r m) : MapIs .str vt w r m := by
  obtain ⟨arr, clock, h1, h2, _⟩ := h
  exact ⟨arr, clock, h1, h2⟩
theorem MapS.nodup {r : Nat} {m : List (ByteArray × vt.T)} (h : MapS vt w r m) : (m.map (·.1)).Nodup := by
  obtain ⟨arr, clock, _, _, _, _, h⟩ := h
  exact h
theorem MapS.lt {r : Nat} {m : List (ByteArray × vt.T)} (h : MapS vt w r m) : r < w.heap.size := h.is.lt
theorem MapS.fr {F : Nat → Prop} {w' : World} {r : Nat} {m : List (ByteArray × vt.T)} (h : MapS vt w r m) (f : Fr F w w') (hF : ¬ F r) : MapS vt w' r m := by
  have hl := h.lt
  obtain ⟨arr, clock, h1, h2⟩ := h
  exact ⟨arr, clock, by rw [f.same r hl hF]; exact h1, h2⟩
def ms (vt : Ty) (r : Nat) (m : List (ByteArray × vt.T)) : Ob := ⟨false, fun B w => MapS vt w r m ∧ B r, fun h f hB => ⟨h.1.fr f (hB _ h.2), h.2⟩⟩
theorem Sp.ms_ {r : Nat} {m : List (ByteArray × vt.T)} (s : Sp w0 L w) (i : Nat) (h : L[i]? = some (ms vt r m)) : MapS vt w r m := by
  obtain ⟨B, h, _⟩ := s.get i h
  exact h.1
theorem Sp.allocS {K : Addr → World → Prop} (s : Sp w0 L w) (vt : Ty) (hK : ∀ r w', Sp w0 (ms vt r [] :: L) w' → K ⟨r, 0, none⟩ w') : Go.Den.allocK (.map #[] 0) w K := by
  refine allocK_mk (hK _ _ (s.push (B := fun b => b = w.heap.size) (alloc_ext w _) ⟨⟨#[], 0, alloc_new w _, rfl, List.nodup_nil, fun e h => by simp at h, List.nodup_nil⟩, rfl⟩ ?_))
  rintro b rfl
  exact ⟨Nat.le_refl _, by simp⟩
theorem MapS.get {d : Nat} {t k e : TypeId} (hd : d ≤ 10000) (hu : P.underlying t = some (.map k e)) (hk : eqOK P d k .str = true) {z : vt.T} (hz : zeroOf P e = some (val vt z))
    {r : Nat} {m : List (ByteArray × vt.T)} (h : MapS vt w r m) (x : ByteArray) : Lk1 P t vt (.map (some r)) (.string x) ((atS? m x).getD z) w := by
  have := lk1_run hd hu hk (by simp) hz h.is x
  rwa [lkS_at] at this
theorem MapS.len {r : Nat} {m : List (ByteArray × vt.T)} (h : MapS vt w r m) : mapLen w (some r) m.length := by
  obtain ⟨arr, clock, h1, h2, _⟩ := h
  have := congrArg List.length h2
  simp only [List.length_map, Array.length_toList] at this
  exact ⟨arr, clock, h1, this.symm⟩

theorem mupdS_fnd (x : ByteArray) (v : vt.T) : ∀ (ls : List MapEntry) (m : List (ByteArray × vt.T)) (j : Nat), ls.map (fun e => (e.key, e.val)) = PairS vt m →
    (fnd .str x ls (m.map (·.1)) j = none ∧ mupdS m x v = m ++ [(x, v)] ∧ mdelS m x = m) ∨
    ∃ (i : Nat) (u : Value) (e : MapEntry), fnd .str x ls (m.map (·.1)) j = some (j + i, u) ∧ ls[i]? = some e ∧ e.key = .string x ∧
      (ls.modify i fun e => { e with key := .string x, val := val vt v }).map (fun e => (e.key, e.val)) = PairS vt (mupdS m x v) ∧ (ls.eraseIdx i).map (fun e => (e.key, e.val)) = PairS vt (mdelS m x)
  | [], [], j, _ => Or.inl ⟨rfl, rfl, rfl⟩
  | [], _ :: _, j, h => by simp at h
  | _ :: _, [], j, h => by simp at h
  | e :: ls, p :: m, j, h => by
    simp only [List.map_cons, List.cons.injEq, Prod.mk.injEq] at h
    by_cases hp : p.1 = x
    · right
      have hb : beqT .str x p.1 = true := (beqT_iff .str rfl _ _).2 hp.symm
      refine ⟨0, e.val, e, ?_, rfl, by rw [h.1.1, hp], ?_, ?_⟩
      · simp only [List.map_cons, fnd]
        rw [hb]; rfl
      · simp only [mupdS, if_pos hp, List.modify_zero_cons, List.map_cons]
        rw [h.2]
      · simp only [mdelS, if_pos hp, List.eraseIdx_zero, List.tail_cons]
        exact h.2
    · have hb : beqT .str x p.1 = false := by
        cases e : beqT .str x p.1
        · rfl
        · exact absurd ((beqT_iff .str rfl _ _).1 e).symm hp
      rcases mupdS_fnd x v ls m (j + 1) h.2 with ⟨h1, h2, h3⟩ | ⟨i, u, e', h1, h2, h3, h4, h5⟩
      · left
        refine ⟨?_, by simp only [mupdS, if_neg hp, h2, List.cons_append], by simp only [mdelS, if_neg hp, h3]⟩
        simp only [List.map_cons, fnd]
        rw [hb]; exact h1
      · right
        refine ⟨i + 1, u, e', ?_, by rw [List.getElem?_cons_succ]; exact h2, h3, ?_, ?_⟩
        · simp only [List.map_cons, fnd]
          rw [hb]
          show fnd .str x ls (m.map (·.1)) (j + 1) = _
          rw [h1, show j + 1 + i = j + (i + 1) by omega]
        · simp only [mupdS, if_neg hp, List.modify_succ_cons, List.map_cons]
          rw [h4, h.1.1, h.1.2]
        · simp only [mdelS, if_neg hp, List.eraseIdx_cons_succ, List.map_cons]
          rw [h5, h.1.1, h.1.2]
theorem bornS_modify (f : MapEntry → MapEntry) (hf : ∀ e, (f e).born = e.born) : ∀ (ls : List MapEntry) (i : Nat), (ls.modify i f).map (·.born) = ls.map (·.born)
  | [], i => by cases i <;> rfl
  | e :: ls, 0 => by simp [hf]
  | e :: ls, i + 1 => by simp [bornS_modify f hf ls i]

theorem Sp.upS {d : Nat} {t k e : TypeId} {r : Nat} {m : List (ByteArray × vt.T)} {K : World → Prop} (s : Sp w0 L w) (i : Nat) (h : L[i]? = some (ms vt r m)) (hd : d ≤ 10000) (hu : P.underlying t = some (.map k e)) (hk : eqOK P d k .str = true)
    (x : ByteArray) (v : vt.T) (hK : ∀ w', Sp w0 (L.set i (ms vt r (mupdS m x v))) w' → K w') : runU P (Instr.mapUpdate t (.map (some r)) (.string x) (val vt v)) w K := by
  obtain ⟨B, ⟨mm, hB⟩, hlt, back⟩ := s.open i h rfl
  have hr := mm.lt
  obtain ⟨arr, clock, h1, h2, h3, h4, h5⟩ := mm
  have hg : (getObj r).run P w = .ok (.map arr clock) w := MapKept.run_getObj_map h1
  have hf := findKey_run (w := w) hd hk (by simp) x arr.toList (m.map (·.1)) (keys_of (kt := .str) (vt := vt) h2)
  have hck : (Instr.checkKey false 10000 k (val .str x)).run P w = .ok () w := checkKey_run d 10000 hd k .str hk x false w
  have fin : ∀ (arr' : Array MapEntry) (clock' : Nat), arr'.toList.map (fun e => (e.key, e.val)) = PairS vt (mupdS m x v) → (arr'.toList.map (·.born)).Nodup → (∀ e ∈ arr'.toList, e.born < clock') → K { w with heap := w.heap.setIfInBounds r (.map arr' clock') } := fun arr' clock' q1 q2 q3 => by
    refine hK _ (back _ B _ ⟨⟨arr', clock', by simp [hr], q1, q2, q3, nodupS_mupd m x v h5⟩, hB⟩ ⟨by simp, fun b _ hb => ?_, rfl, rfl, rfl⟩ (fun _ h => Or.inl h) fun b hb => by simpa using (hlt b hb).2)
    have : r ≠ b := fun e => hb (e ▸ hB)
    simp [Array.getElem?_setIfInBounds, this]
  rcases mupdS_fnd x v arr.toList m 0 h2 with ⟨q1, q2, _⟩ | ⟨j, u, e', q1, q2, q3, q4, _⟩
  · refine ⟨_, ?_, fin (arr.push { key := .string x, val := val vt v, born := clock }) (clock + 1) ?_ ?_ ?_⟩
    · show (Instr.mapUpdate t (.map (some r)) (val .str x) (val vt v)).run P w = _
      unfold Instr.mapUpdate
      simp only [Sem.run_bind, run_underlying hu, Result.andThen_ok, hg, hck, hf, q1]
      simp [MapKept.run_setObj_map _ h1, val]
    · rw [Array.toList_push, List.map_append, h2, q2]; simp
    · rw [Array.toList_push, List.map_append, List.nodup_append]
      refine ⟨h3, by simp, fun a ha b hb => ?_⟩
      simp at hb
      subst hb
      obtain ⟨e, he, rfl⟩ := List.mem_map.1 ha
      have := h4 e he
      omega
    · intro e he
      rw [Array.toList_push] at he
      rcases List.mem_append.1 he with he | he
      · have := h4 e he; omega
      · simp at he; subst he; exact Nat.lt_succ_self _
  · have harr : arr[j]? = some e' := by rw [← Array.getElem?_toList]; exact q2
    refine ⟨_, ?_, fin (arr.modify j fun e => { e with key := .string x, val := val vt v }) clock ?_ ?_ ?_⟩
    · show (Instr.mapUpdate t (.map (some r)) (val .str x) (val vt v)).run P w = _
      unfold Instr.mapUpdate
      simp only [Sem.run_bind, run_underlying hu, Result.andThen_ok, hg, hck, hf, q1]
      have hb : (x == x) = true := by rw [ba_beq]; simp
      simp [MapKept.run_setObj_map _ h1, val, harr, q3, Instr.keyThatStays, Instr.sameBits, hb]
    · rw [Array.toList_modify, q4]
    · rw [Array.toList_modify, bornS_modify (fun e => { e with key := .string x, val := val vt v }) (fun _ => rfl)]
      exact h3
    · intro e he
      rw [Array.toList_modify] at he
      have : e.born ∈ (arr.toList.modify j fun e => { e with key := .string x, val := val vt v }).map (·.born) := List.mem_map.2 ⟨e, he, rfl⟩
      rw [bornS_modify (fun e => { e with key := .string x, val := val vt v }) (fun _ => rfl)] at this
      obtain ⟨e2, he2, hb2⟩ := List.mem_map.1 this
      have := h4 e2 he2
      omega
theorem Sp.delS {d : Nat} {t k e : TypeId} {r : Nat} {m : List (ByteArray × vt.T)} {ty : TypeId} {K : Unit → World → Prop} {t2 : TypeId} (v : vt.T) (s : Sp w0 L w) (i : Nat) (h : L[i]? = some (ms vt r m)) (hd : d ≤ 10000) (hu : P.underlying t = some (.map k e)) (hk : eqOK P d k .str = true)
    (x : ByteArray) (hK : ∀ w', Sp w0 (L.set i (ms vt r (mdelS m x))) w' → K () w') : runK P (.tup .unit) (Builtin.delete_ #[t, t2] ty #[.map (some r), .string x]) w K := by
  obtain ⟨B, ⟨mm, hB⟩, hlt, back⟩ := s.open i h rfl
  have hr := mm.lt
  obtain ⟨arr, clock, h1, h2, h3, h4, h5⟩ := mm
  have hg : (getObj r).run P w = .ok (.map arr clock) w := MapKept.run_getObj_map h1
  have hf := findKey_run (w := w) hd hk (by simp) x arr.toList (m.map (·.1)) (keys_of (kt := .str) (vt := vt) h2)
  have hck : (Instr.checkKey arr.isEmpty 10000 k (val .str x)).run P w = .ok () w := checkKey_run d 10000 hd k .str hk x _ w
  have fin : ∀ (arr' : Array MapEntry), arr'.toList.map (fun e => (e.key, e.val)) = PairS vt (mdelS m x) → (arr'.toList.map (·.born)).Nodup → (∀ e ∈ arr'.toList, e.born < clock) → K () { w with heap := w.heap.setIfInBounds r (.map arr' clock) } := fun arr' q1 q2 q3 => by
    refine hK _ (back _ B _ ⟨⟨arr', clock, by simp [hr], q1, q2, q3, nodupS_mdel m x h5⟩, hB⟩ ⟨by simp, fun b _ hb => ?_, rfl, rfl, rfl⟩ (fun _ h => Or.inl h) fun b hb => by simpa using (hlt b hb).2)
    have : r ≠ b := fun e => hb (e ▸ hB)
    simp [Array.getElem?_setIfInBounds, this]
  rcases mupdS_fnd x v arr.toList m 0 h2 with ⟨q1, _, q2⟩ | ⟨j, u, e', q1, q2, q3, _, q5⟩
  · refine ⟨(), _, ?_, fin arr (by rw [q2]; exact h2) h3 h4⟩
    show (Builtin.delete_ #[t, t2] ty #[.map (some r), val .str x]).run P w = _
    unfold Builtin.delete_
    simp only [List.getElem?_toArray, List.getElem?_cons_zero, List.getElem?_cons_succ, Sem.run_bind, run_underlying hu, Result.andThen_ok, hg, hck, hf, q1]
    simp [MapKept.run_setObj_map _ h1, val, vals]
  · refine ⟨(), _, ?_, fin (arr.eraseIdxIfInBounds j) ?_ ?_ ?_⟩
    · show (Builtin.delete_ #[t, t2] ty #[.map (some r), val .str x]).run P w = _
      unfold Builtin.delete_
      simp only [List.getElem?_toArray, List.getElem?_cons_zero, List.getElem?_cons_succ, Sem.run_bind, run_underlying hu, Result.andThen_ok, hg, hck, hf, q1]
      simp [MapKept.run_setObj_map _ h1, val, vals]
    · rw [Array.toList_eraseIdxIfInBounds]; exact q5
    · rw [Array.toList_eraseIdxIfInBounds]
      exact List.Nodup.sublist ((List.eraseIdx_sublist _ _).map _) h3
    · intro e he
      rw [Array.toList_eraseIdxIfInBounds] at he
      exact h4 e ((List.eraseIdx_sublist _ _).subset he)

/-! ### Ranges -/
/-- the entries of a map, told -/
structure ToldS (vt : Ty) (m : List (ByteArray × vt.T)) (arr : Array MapEntry) (clock : Nat) : Prop where
  eq : arr.toList.map (fun e => (e.key, e.val)) = PairS vt m
  born : (arr.toList.map (·.born)).Nodup
  old : ∀ e ∈ arr.toList, e.born < clock
  keys : (m.map (·.1)).Nodup
theorem Sp.tellS {r : Nat} {m : List (ByteArray × vt.T)} (s : Sp w0 L w) (i : Nat) (h : L[i]? = some (ms vt r m)) : ∃ arr clock, ToldS vt m arr clock ∧ Sp w0 (L.set i (mx r arr clock)) w := by
  obtain ⟨arr, clock, h1, h2, h3, h4, h5⟩ := s.ms_ i h
  exact ⟨arr, clock, ⟨h2, h3, h4, h5⟩, s.weak i h _ (fun B hP _ => ⟨B, ⟨h1, hP.2⟩, fun _ h => h⟩) (fun h => h)⟩
theorem Sp.untellS {r : Nat} {m : List (ByteArray × vt.T)} {arr : Array MapEntry} {clock : Nat} (t : ToldS vt m arr clock) (s : Sp w0 L w) (i : Nat) (h : L[i]? = some (mx r arr clock)) : Sp w0 (L.set i (ms vt r m)) w :=
  s.weak i h _ (fun B hP _ => ⟨B, ⟨⟨arr, clock, hP.1, t.eq, t.born, t.old, t.keys⟩, hP.2⟩, fun _ h => h⟩) (fun h => h)
/-- one round of a range, or its end -/
theorem Sp.roundS {b r : Nat} {arr : Array MapEntry} {clock : Nat} {m : List (ByteArray × vt.T)} {seen : Array Nat} {ty : TypeId} {A : World → Prop} {B : ByteArray → vt.T → World → Prop} (t : ToldS vt m arr clock) (s : Sp w0 L w) (i j : Nat) (hi : L[i]? = some (itr r b clock seen)) (hj : L[j]? = some (mx b arr clock))
    (hend : (∀ e ∈ arr.toList, e.born ∈ seen.toList) → A w) (hrnd : ∀ (e : MapEntry) (k : ByteArray) (v : vt.T) w', e ∈ arr.toList → e.born ∉ seen.toList → e.key = .string k → e.val = val vt v → (k, v) ∈ m → Sp w0 (L.set i (itr r b clock (seen.push e.born))) w' → B k v w') :
    ∃ (bb : Bool) (vs : List Value) (w5 : World), (Instr.next (.pointer (some ⟨r, 0, none⟩)) false ty).run P w = .ok (.tuple (Value.bool bb :: vs).toArray) w5 ∧
      gd bb (∃ (k : ByteArray) (v : vt.T) (w6 : World), (Instr.entry (.pointer (some ⟨r, 0, none⟩))).run P w5 = .ok (.tuple #[.string k, val vt v]) w6 ∧ B k v w6) (A w5) := by
  obtain ⟨Bi, ⟨⟨c, hc1, hc2⟩, hBi⟩, hlt, back⟩ := s.open i hi rfl
  have hb := s.mx_ j hj
  rcases run_next_at (P := P) w ty r b clock c seen arr clock hc2 hb t.old hc1 with ⟨h0, hrun⟩ | ⟨e, he, w1, hw1, hrun⟩
  · refine ⟨false, [], w, hrun, hend fun e he => ?_⟩
    apply Classical.byContradiction
    intro hn
    have hm : e ∈ leftOf arr seen := by
      unfold leftOf
      rw [Array.mem_filter]
      exact ⟨Array.mem_toList_iff.1 he, by simpa [Array.mem_toList_iff] using hn⟩
    have : leftOf arr seen = #[] := Array.eq_empty_of_size_eq_zero h0
    rw [this] at hm
    simp at hm
  · have hm : e ∈ arr ∧ ¬ (e.born ∈ seen) := by
      have h := Array.mem_toList_iff.1 he
      unfold leftOf at h
      rw [Array.mem_filter] at h
      simpa using h
    have hmem : e ∈ arr.toList := Array.mem_toList_iff.2 hm.1
    obtain ⟨k, v, hk, hv, hkv⟩ : ∃ (k : ByteArray) (v : vt.T), e.key = .string k ∧ e.val = val vt v ∧ (k, v) ∈ m := by
      have h1 : (e.key, e.val) ∈ arr.toList.map (fun e => (e.key, e.val)) := List.mem_map.2 ⟨e, hmem, rfl⟩
      rw [t.eq] at h1
      obtain ⟨p, hp1, hp⟩ := List.mem_map.1 h1
      exact ⟨p.1, p.2, (congrArg Prod.fst hp).symm, (congrArg Prod.snd hp).symm, hp1⟩
    have hsz : r < w1.heap.size := by
      have := (Array.getElem?_eq_some_iff.1 hc2).1
      rcases hw1 with rfl | rfl <;> exact this
    have hw1h : w1.heap = w.heap := by rcases hw1 with rfl | rfl <;> rfl
    have hF : Fr (fun x => x = r) w (ChangeMaps.setBlock w1 r (.mapIter (some b) clock (seen.push e.born) clock)) := by
      refine ⟨?_, fun x _ hx => ?_, ?_⟩
      · unfold ChangeMaps.setBlock; simp [hw1h]
      · unfold ChangeMaps.setBlock
        have : r ≠ x := fun h => hx h.symm
        simp [Array.getElem?_setIfInBounds, this, hw1h]
      · rcases hw1 with rfl | rfl <;> exact ⟨rfl, rfl, rfl⟩
    have hr' : (ChangeMaps.setBlock w1 r (.mapIter (some b) clock (seen.push e.born) clock)).heap[r]? = some (.mapIter (some b) clock (seen.push e.born) clock) := by
      unfold ChangeMaps.setBlock; simp [hsz]
    have s' := back (itr r b clock (seen.push e.born)) Bi _ ⟨⟨clock, Nat.le_refl _, hr'⟩, hBi⟩ (hF.mono fun x _ hx => hx ▸ hBi) (fun _ h => Or.inl h) (fun x hx => Nat.lt_of_lt_of_le (hlt x hx).2 hF.size)
    have hne : i ≠ j := fun h => by
      subst h
      rw [hi] at hj
      have := Option.some.inj hj
      have h2 := s.mx_ i (by rw [hi, this])
      rw [this] at hi
      obtain ⟨_, ⟨⟨c', _, h3⟩, _⟩, _⟩ := s.get i (this ▸ hi : L[i]? = some (itr r b clock seen))
      rw [hc2] at h3
      have e1 : (itr r b clock seen).P = (mx b arr clock).P := by rw [this]
      have e2 := congrFun (congrFun e1 (fun _ => True)) w
      have e3 : (mx b arr clock).P (fun _ => True) w := ⟨hb, trivial⟩
      rw [← e2] at e3
      have e4 : (itr r b clock seen).P (fun x => x = r) w := ⟨⟨c, hc1, hc2⟩, rfl⟩
      rw [congrFun (congrFun e1 (fun x => x = r)) w] at e4
      have hbr : b = r := e4.2
      rw [hbr, hc2] at hb
      cases hb
    have hb' := s'.mx_ j (setNe hj hne)
    refine ⟨true, [e.key, e.val], _, hrun, ?_⟩
    refine ⟨k, v, _, ?_, hrnd e k v _ hmem (fun h => hm.2 (Array.mem_toList_iff.1 h)) hk hv hkv s'⟩
    rw [← hk, ← hv]
    exact run_entry_at _ r b clock seen arr clock e hr' hb' hmem t.born

end Go.Den

/- The contract of slices.Sort at this program's numbers: the kit's laying, as plain text printed by a program. No conditions. -/
namespace Go.Proofs.YtnmgjpcooncjlaaGreat
open Go.Shelf

def sortRen : Go.Shelf.Ren := ⟨fun | 5 => 83 | 8 => 80 | 7 => 112 | 19 => 110 | 20 => 111 | 10 => 127 | 11 => 128 | 12 => 129 | 13 => 130 | 14 => 131 | 15 => 132 | 16 => 133 | 17 => 134 | 18 => 135 | 30 => 150 | 31 => 122 | 32 => 123 | 33 => 151 | 34 => 152 | 35 => 153 | 40 => 160 | n => n, fun | 23 => 42 | 25 => 55 | 3 => 3 | 32 => 174 | 22 => 42 | 0 => 0 | 44 => 203 | 46 => 121 | 4 => 4 | 36 => 195 | 35 => 194 | 41 => 200 | 5 => 5 | 9 => 9 | 53 => 213 | 57 => 217 | 63 => 233 | 64 => 234 | n => n, fun n => n⟩
theorem sortLay : SlLaysM.n5 Tryz.prog sortRen := {
  mixed := by kernel_rfl,
  f5 := ⟨Tryz.f83.name, by decide, Tryz.func83.trans (congrArg some (by kernel_rfl))⟩,
  f7 := ⟨Tryz.f112.name, by decide, Tryz.func112.trans (congrArg some (by kernel_rfl))⟩,
  f8 := Tryz.func80.trans (congrArg some (by kernel_rfl)),
  f10 := ⟨Tryz.f127.name, by decide, Tryz.func127.trans (congrArg some (by kernel_rfl))⟩,
  f11 := ⟨Tryz.f128.name, by decide, Tryz.func128.trans (congrArg some (by kernel_rfl))⟩,
  f12 := ⟨Tryz.f129.name, by decide, Tryz.func129.trans (congrArg some (by kernel_rfl))⟩,
  f13 := ⟨Tryz.f130.name, by decide, Tryz.func130.trans (congrArg some (by kernel_rfl))⟩,
  f14 := ⟨Tryz.f131.name, by decide, Tryz.func131.trans (congrArg some (by kernel_rfl))⟩,
  f15 := ⟨Tryz.f132.name, by decide, Tryz.func132.trans (congrArg some (by kernel_rfl))⟩,
  f16 := ⟨Tryz.f133.name, by decide, Tryz.func133.trans (congrArg some (by kernel_rfl))⟩,
  f17 := ⟨Tryz.f134.name, by decide, Tryz.func134.trans (congrArg some (by kernel_rfl))⟩,
  f18 := ⟨Tryz.f135.name, by decide, Tryz.func135.trans (congrArg some (by kernel_rfl))⟩,
  f19 := Tryz.func110.trans (congrArg some (by kernel_rfl)),
  f20 := Tryz.func111.trans (congrArg some (by kernel_rfl)),
  f30 := ⟨Tryz.f150.name, by decide, Tryz.func150.trans (congrArg some (by kernel_rfl))⟩,
  f31 := Tryz.func122.trans (congrArg some (by kernel_rfl)),
  f32 := Tryz.func123.trans (congrArg some (by kernel_rfl)),
  f33 := ⟨Tryz.f151.name, by decide, Tryz.func151.trans (congrArg some (by kernel_rfl))⟩,
  f34 := ⟨Tryz.f152.name, by decide, Tryz.func152.trans (congrArg some (by kernel_rfl))⟩,
  f35 := ⟨Tryz.f153.name, by decide, Tryz.func153.trans (congrArg some (by kernel_rfl))⟩,
  f40 := ⟨Tryz.f160.name, by decide, Tryz.func160.trans (congrArg some (by kernel_rfl))⟩,
  t0 := Tryz.underlying0,
  a0 := Tryz.isAgg0,
  z0 := Tryz.sizeOf0,
  v0 := Tryz.zeroValue0,
  t3 := Tryz.underlying3,
  a3 := Tryz.isAgg3,
  z3 := Tryz.sizeOf3,
  v3 := Tryz.zeroValue3,
  t4 := Tryz.underlying4,
  a4 := Tryz.isAgg4,
  z4 := Tryz.sizeOf4,
  v4 := Tryz.zeroValue4,
  t5 := Tryz.underlying5,
  a5 := Tryz.isAgg5,
  z5 := Tryz.sizeOf5,
  v5 := Tryz.zeroValue5,
  t9 := Tryz.underlying9,
  a9 := Tryz.isAgg9,
  z9 := Tryz.sizeOf9,
  v9 := Tryz.zeroValue9,
  t22 := Tryz.underlying42,
  a22 := Tryz.isAgg42,
  z22 := Tryz.sizeOf42,
  v22 := Tryz.zeroValue42,
  t23 := Tryz.underlying42,
  a23 := Tryz.isAgg42,
  z23 := Tryz.sizeOf42,
  v23 := Tryz.zeroValue42,
  t25 := Tryz.underlying55,
  a25 := Tryz.isAgg55,
  z25 := Tryz.sizeOf55,
  v25 := Tryz.zeroValue55,
  t32 := Tryz.underlying174,
  a32 := Tryz.isAgg174,
  z32 := Tryz.sizeOf174,
  v32 := Tryz.zeroValue174,
  t35 := Tryz.underlying194,
  a35 := Tryz.isAgg194,
  z35 := Tryz.sizeOf194,
  v35 := Tryz.zeroValue194,
  t36 := Tryz.underlying195,
  a36 := Tryz.isAgg195,
  z36 := Tryz.sizeOf195,
  v36 := Tryz.zeroValue195,
  t41 := Tryz.underlying200,
  a41 := Tryz.isAgg200,
  z41 := Tryz.sizeOf200,
  v41 := Tryz.zeroValue200,
  t44 := Tryz.underlying203,
  a44 := Tryz.isAgg203,
  z44 := Tryz.sizeOf203,
  v44 := Tryz.zeroValue203,
  t46 := Tryz.underlying121,
  a46 := Tryz.isAgg121,
  z46 := Tryz.sizeOf121,
  v46 := Tryz.zeroValue121,
  t53 := Tryz.underlying213,
  a53 := Tryz.isAgg213,
  z53 := Tryz.sizeOf213,
  v53 := Tryz.zeroValue213,
  t57 := Tryz.underlying217,
  a57 := Tryz.isAgg217,
  z57 := Tryz.sizeOf217,
  v57 := Tryz.zeroValue217,
  t63 := Tryz.underlying233,
  a63 := Tryz.isAgg233,
  z63 := Tryz.sizeOf233,
  v63 := Tryz.zeroValue233,
  t64 := Tryz.underlying234,
  a64 := Tryz.isAgg234,
  z64 := Tryz.sizeOf234,
  v64 := Tryz.zeroValue234 }

end Go.Proofs.YtnmgjpcooncjlaaGreat

/- What slices.Sort leaves: the same numbers, in order. -/
set_option linter.unusedVariables false
set_option linter.unusedSimpArgs false
namespace Go.Proofs.YtnmgjpcooncjlaaGreat
open Go.Den

variable {w0 w : World} {Ω : List Ob} {sl : Sl} {xs : List (Ty.int .i64).T}

def srt (xs : List Int) : List Int := xs.mergeSort fun x y => decide (x ≤ y)
theorem srt_len (xs : List Int) : (srt xs).length = xs.length := List.length_mergeSort xs
theorem srt_perm (xs : List Int) : (srt xs).Perm xs := List.mergeSort_perm xs _
theorem srt_sorted (xs : List Int) : (srt xs).Pairwise (fun x y => x ≤ y) := by
  have := List.pairwise_mergeSort (le := fun (x y : Int) => decide (x ≤ y)) (fun a b c h1 h2 => by simp at *; omega) (fun a b => by simp; omega) xs
  exact this.imp fun h => by simpa using h
theorem flat_int (xs : List (Ty.int .i64).T) : flat (.int .i64) xs = xs.map (Value.int .i64) := by
  induction xs with
  | nil => rfl
  | cons x xs ih => simp only [flat, List.flatMap_cons, List.map_cons] at ih ⊢; rw [ih]; rfl
theorem addr_mk (q : Addr) (h : q.spot = none) : q = ⟨q.block, q.off, none⟩ := by cases q; cases h; rfl
theorem add_mk (b o j : Nat) : Addr.add ⟨b, o, none⟩ j = ⟨b, o + j, none⟩ := by
  unfold Addr.add; split <;> simp_all

/-- a row of a slice, sorted in place -/
theorem sort_own (o : Own (.int .i64) w sl xs) {q : Addr} (hq : sl.a = some q) (n : Nat) (os : Array Obj) (ys : List (Ty.int .i64).T) (hl : ys.length = xs.length) :
    Go.Sort.Holds (Value.int .i64) w q.block q.off (xs.toArray : Array Int) ∧ Own (.int .i64) (Go.Sort.grow (Go.Sort.putRow (Value.int .i64) (Go.Sort.ahead w n) q.block q.off (ys.toArray : Array Int)) os) sl ys ∧
    Fr (fun b => b = q.block) w (Go.Sort.grow (Go.Sort.putRow (Value.int .i64) (Go.Sort.ahead w n) q.block q.off (ys.toArray : Array Int)) os) := by
  have hs := addr_mk q (o.spot q hq)
  have hlt : q.block < w.heap.size := o.lt _ ⟨q, hq, rfl⟩
  have hlen := o.view.len
  have hcap := o.cap
  have hwr := o.wr q hq
  have hat := o.view.mem q hq
  rw [flat_int] at hat
  have e1 : ∀ j, Addr.add q j = ⟨q.block, q.off + j, none⟩ := fun j => by
    conv => lhs; rw [hs]
    exact add_mk _ _ _
  have holds : Go.Sort.Holds (Value.int .i64) w q.block q.off (xs.toArray : Array Int) := fun j hj => by
    have hj' : j < xs.length := by simpa using hj
    constructor
    · have := hat j (Value.int .i64 xs[j]) (by rw [List.getElem?_map, List.getElem?_eq_getElem hj']; rfl)
      rw [e1] at this
      rw [this]
      congr 2
      simp [hj']
    · have := (hwr j (by simp only [Ty.size]; omega)).2
      rw [e1] at this
      exact this
  refine ⟨holds, ?_, ?_⟩
  · have hh : Go.Sort.Holds (Value.int .i64) (Go.Sort.ahead w n) q.block q.off (xs.toArray : Array Int) := Go.Sort.holds_ahead _ _ _ _ _ _ holds
    have h1 := Go.Sort.holds_putRow (Value.int .i64) (Go.Sort.ahead w n) q.block q.off (xs.toArray : Array Int) (ys.toArray : Array Int) hh (by simp [hl])
    have hsz : (Go.Sort.putRow (Value.int .i64) (Go.Sort.ahead w n) q.block q.off (ys.toArray : Array Int)).heap.size = w.heap.size := by simp
    have h2 := Go.Sort.holds_grow (Value.int .i64) _ os q.block q.off (ys.toArray : Array Int) (by rw [hsz]; exact hlt) h1
    refine ⟨⟨by rw [hl]; exact hlen, fun q' hq' => ?_, fun _ => ⟨q, hq⟩⟩, hcap, fun q' hq' => ?_, fun h => (by rw [hq] at h; cases h), fun b hb => ?_, o.spot⟩
    · rw [hq] at hq'; cases hq'
      rw [flat_int]
      intro i v hi
      rw [List.getElem?_map] at hi
      have hil : i < ys.length := by
        cases h : ys[i]? with
        | none => rw [h] at hi; cases hi
        | some y => exact (List.getElem?_eq_some_iff.1 h).1
      rw [List.getElem?_eq_getElem hil] at hi
      have := (h2 i (by simpa using hil)).1
      rw [e1, this]
      simp only [Option.map_some] at hi
      rw [← hi]
      congr 2
      simp [hil]
    · rw [hq] at hq'; cases hq'
      intro i hi
      obtain ⟨⟨v, hv⟩, hf⟩ := hwr i hi
      have c1 : ∃ v, (Go.Sort.putRow (Value.int .i64) (Go.Sort.ahead w n) q.block q.off (ys.toArray : Array Int)).cell? (q.add i) = some v := by
        by_cases c : i < ys.length
        · have := (h1 i (by simpa using c)).1
          exact ⟨_, by rw [e1]; exact this⟩
        · refine ⟨v, ?_⟩
          rw [Go.Sort.cell?_putRow_other _ _ _ _ _ _ (by right; right; rw [e1]; simp; omega)]
          exact hv
      obtain ⟨v', hv'⟩ := c1
      refine ⟨⟨v', ?_⟩, ?_⟩
      · rw [Go.Sort.cell?_grow _ _ _ (by rw [hsz, e1]; exact hlt)]; exact hv'
      · rw [Go.Sort.frozen?_grow _ _ _ (by rw [hsz, e1]; exact hlt), Go.Sort.frozen?_putRow]; exact hf
    · have := o.lt b hb
      rw [Go.Sort.size_grow, hsz]; omega
  · refine ⟨by rw [Go.Sort.size_grow]; simp, fun b hb hne => ?_, rfl, rfl, rfl⟩
    have hsz : (Go.Sort.putRow (Value.int .i64) (Go.Sort.ahead w n) q.block q.off (ys.toArray : Array Int)).heap.size = w.heap.size := by simp
    rw [Go.Sort.heap_grow_old _ _ (by rw [hsz]; exact hb)]
    unfold Go.Sort.putRow Go.Sort.mapBlock
    simp only [Array.getElem?_modify, Go.Sort.heap_ahead]
    rw [if_neg (Ne.symm hne)]

theorem slices_Sort_sp (s : Sp w0 Ω w) (i : Nat) (hi : Ω[i]? = some (own (.int .i64) sl xs)) (hl : xs.length ≤ 1000000000) {K : Unit → World → Prop} (h : ∀ w', Sp w0 (Ω.set i (own (.int .i64) sl (srt xs))) w' → K () w') : C_slices_Sort sl K w := by
  obtain ⟨B, ⟨o, hB⟩, hlt, back⟩ := s.open i hi rfl
  have hlen := o.view.len
  cases hq : sl.a with
  | none =>
    have h0 := o.nil hq
    have hcap := o.cap
    have hx : xs = [] := List.eq_nil_of_length_eq_zero (by omega)
    have hn : sl.len = 0 := by omega
    have := AnyM.slices_Sort_int_none sortLay none sl.cap w
    unfold C_slices_Sort
    rw [hq, hn]
    refine Calls.mono this fun e w' ⟨he, hw⟩ => ⟨(), he, ?_⟩
    subst hw
    refine h _ ?_
    subst hx
    have : srt [] = [] := by simp [srt]
    rw [this]
    exact (setSame hi).symm ▸ s
  | some q =>
    have hs := addr_mk q (o.spot q hq)
    have key := sort_own o hq
    have := AnyM.slices_Sort_int sortLay q.block q.off sl.cap xs w (key 0 #[] xs rfl).1 (o.lt _ ⟨q, hq, rfl⟩) (by omega)
    unfold C_slices_Sort
    rw [hq, hlen]
    rw [← hs] at this
    refine Calls.mono this fun e w' ⟨he, n, os, hw⟩ => ⟨(), he, ?_⟩
    obtain ⟨_, o', f⟩ := key n os (srt xs) (srt_len xs)
    subst hw
    exact h _ (back _ B _ ⟨o', hB⟩ (f.mono fun b _ hb => hb ▸ hB _ ⟨q, hq, rfl⟩) (fun _ h => Or.inl h) fun b hb => Nat.lt_of_lt_of_le (hlt b hb).2 f.size)

end Go.Proofs.YtnmgjpcooncjlaaGreat

/- The contract of slices.Sort at this program's numbers: the kit's laying, as plain text printed by a program. No conditions. -/
namespace Go.Proofs.YtnmgjpcooncjlaaGreat
open Go.Shelf

def sortRenI : Go.Shelf.Ren := ⟨fun | 5 => 85 | 8 => 80 | 7 => 113 | 19 => 110 | 20 => 111 | 10 => 136 | 11 => 137 | 12 => 138 | 13 => 139 | 14 => 140 | 15 => 141 | 16 => 142 | 17 => 143 | 18 => 144 | 30 => 154 | 31 => 122 | 32 => 123 | 33 => 155 | 34 => 156 | 35 => 157 | 40 => 161 | n => n, fun | 23 => 38 | 25 => 3 | 3 => 3 | 32 => 174 | 22 => 38 | 0 => 0 | 44 => 203 | 46 => 121 | 4 => 4 | 36 => 195 | 35 => 194 | 41 => 200 | 5 => 5 | 9 => 9 | 53 => 213 | 57 => 217 | 63 => 233 | 64 => 234 | n => n, fun n => n⟩
theorem sortLayI : SlLaysM.n5 Tryz.prog sortRenI := {
  mixed := by kernel_rfl,
  f5 := ⟨Tryz.f85.name, by decide, Tryz.func85.trans (congrArg some (by kernel_rfl))⟩,
  f7 := ⟨Tryz.f113.name, by decide, Tryz.func113.trans (congrArg some (by kernel_rfl))⟩,
  f8 := Tryz.func80.trans (congrArg some (by kernel_rfl)),
  f10 := ⟨Tryz.f136.name, by decide, Tryz.func136.trans (congrArg some (by kernel_rfl))⟩,
  f11 := ⟨Tryz.f137.name, by decide, Tryz.func137.trans (congrArg some (by kernel_rfl))⟩,
  f12 := ⟨Tryz.f138.name, by decide, Tryz.func138.trans (congrArg some (by kernel_rfl))⟩,
  f13 := ⟨Tryz.f139.name, by decide, Tryz.func139.trans (congrArg some (by kernel_rfl))⟩,
  f14 := ⟨Tryz.f140.name, by decide, Tryz.func140.trans (congrArg some (by kernel_rfl))⟩,
  f15 := ⟨Tryz.f141.name, by decide, Tryz.func141.trans (congrArg some (by kernel_rfl))⟩,
  f16 := ⟨Tryz.f142.name, by decide, Tryz.func142.trans (congrArg some (by kernel_rfl))⟩,
  f17 := ⟨Tryz.f143.name, by decide, Tryz.func143.trans (congrArg some (by kernel_rfl))⟩,
  f18 := ⟨Tryz.f144.name, by decide, Tryz.func144.trans (congrArg some (by kernel_rfl))⟩,
  f19 := Tryz.func110.trans (congrArg some (by kernel_rfl)),
  f20 := Tryz.func111.trans (congrArg some (by kernel_rfl)),
  f30 := ⟨Tryz.f154.name, by decide, Tryz.func154.trans (congrArg some (by kernel_rfl))⟩,
  f31 := Tryz.func122.trans (congrArg some (by kernel_rfl)),
  f32 := Tryz.func123.trans (congrArg some (by kernel_rfl)),
  f33 := ⟨Tryz.f155.name, by decide, Tryz.func155.trans (congrArg some (by kernel_rfl))⟩,
  f34 := ⟨Tryz.f156.name, by decide, Tryz.func156.trans (congrArg some (by kernel_rfl))⟩,
  f35 := ⟨Tryz.f157.name, by decide, Tryz.func157.trans (congrArg some (by kernel_rfl))⟩,
  f40 := ⟨Tryz.f161.name, by decide, Tryz.func161.trans (congrArg some (by kernel_rfl))⟩,
  t0 := Tryz.underlying0,
  a0 := Tryz.isAgg0,
  z0 := Tryz.sizeOf0,
  v0 := Tryz.zeroValue0,
  t3 := Tryz.underlying3,
  a3 := Tryz.isAgg3,
  z3 := Tryz.sizeOf3,
  v3 := Tryz.zeroValue3,
  t4 := Tryz.underlying4,
  a4 := Tryz.isAgg4,
  z4 := Tryz.sizeOf4,
  v4 := Tryz.zeroValue4,
  t5 := Tryz.underlying5,
  a5 := Tryz.isAgg5,
  z5 := Tryz.sizeOf5,
  v5 := Tryz.zeroValue5,
  t9 := Tryz.underlying9,
  a9 := Tryz.isAgg9,
  z9 := Tryz.sizeOf9,
  v9 := Tryz.zeroValue9,
  t22 := Tryz.underlying38,
  a22 := Tryz.isAgg38,
  z22 := Tryz.sizeOf38,
  v22 := Tryz.zeroValue38,
  t23 := Tryz.underlying38,
  a23 := Tryz.isAgg38,
  z23 := Tryz.sizeOf38,
  v23 := Tryz.zeroValue38,
  t25 := Tryz.underlying3,
  a25 := Tryz.isAgg3,
  z25 := Tryz.sizeOf3,
  v25 := Tryz.zeroValue3,
  t32 := Tryz.underlying174,
  a32 := Tryz.isAgg174,
  z32 := Tryz.sizeOf174,
  v32 := Tryz.zeroValue174,
  t35 := Tryz.underlying194,
  a35 := Tryz.isAgg194,
  z35 := Tryz.sizeOf194,
  v35 := Tryz.zeroValue194,
  t36 := Tryz.underlying195,
  a36 := Tryz.isAgg195,
  z36 := Tryz.sizeOf195,
  v36 := Tryz.zeroValue195,
  t41 := Tryz.underlying200,
  a41 := Tryz.isAgg200,
  z41 := Tryz.sizeOf200,
  v41 := Tryz.zeroValue200,
  t44 := Tryz.underlying203,
  a44 := Tryz.isAgg203,
  z44 := Tryz.sizeOf203,
  v44 := Tryz.zeroValue203,
  t46 := Tryz.underlying121,
  a46 := Tryz.isAgg121,
  z46 := Tryz.sizeOf121,
  v46 := Tryz.zeroValue121,
  t53 := Tryz.underlying213,
  a53 := Tryz.isAgg213,
  z53 := Tryz.sizeOf213,
  v53 := Tryz.zeroValue213,
  t57 := Tryz.underlying217,
  a57 := Tryz.isAgg217,
  z57 := Tryz.sizeOf217,
  v57 := Tryz.zeroValue217,
  t63 := Tryz.underlying233,
  a63 := Tryz.isAgg233,
  z63 := Tryz.sizeOf233,
  v63 := Tryz.zeroValue233,
  t64 := Tryz.underlying234,
  a64 := Tryz.isAgg234,
  z64 := Tryz.sizeOf234,
  v64 := Tryz.zeroValue234 }

end Go.Proofs.YtnmgjpcooncjlaaGreat

/- What slices.Sort leaves of ints (beside a sort of another type of ints): the same numbers, in order. -/
set_option linter.unusedVariables false
set_option linter.unusedSimpArgs false
namespace Go.Proofs.YtnmgjpcooncjlaaGreat
open Go.Den

variable {w0 w : World} {Ω : List Ob} {sl : Sl} {xs : List (Ty.int .i64).T}

theorem slices_SortI_sp (s : Sp w0 Ω w) (i : Nat) (hi : Ω[i]? = some (own (.int .i64) sl xs)) (hl : xs.length ≤ 1000000000) {K : Unit → World → Prop} (h : ∀ w', Sp w0 (Ω.set i (own (.int .i64) sl (srt xs))) w' → K () w') : C_slices_SortI sl K w := by
  obtain ⟨B, ⟨o, hB⟩, hlt, back⟩ := s.open i hi rfl
  have hlen := o.view.len
  cases hq : sl.a with
  | none =>
    have h0 := o.nil hq
    have hcap := o.cap
    have hx : xs = [] := List.eq_nil_of_length_eq_zero (by omega)
    have hn : sl.len = 0 := by omega
    have := AnyM.slices_Sort_int_none sortLayI none sl.cap w
    unfold C_slices_SortI
    rw [hq, hn]
    refine Calls.mono this fun e w' ⟨he, hw⟩ => ⟨(), he, ?_⟩
    subst hw
    refine h _ ?_
    subst hx
    have : srt [] = [] := by simp [srt]
    rw [this]
    exact (setSame hi).symm ▸ s
  | some q =>
    have hs := addr_mk q (o.spot q hq)
    have key := sort_own o hq
    have := AnyM.slices_Sort_int sortLayI q.block q.off sl.cap xs w (key 0 #[] xs rfl).1 (o.lt _ ⟨q, hq, rfl⟩) (by omega)
    unfold C_slices_SortI
    rw [hq, hlen]
    rw [← hs] at this
    refine Calls.mono this fun e w' ⟨he, n, os, hw⟩ => ⟨(), he, ?_⟩
    obtain ⟨_, o', f⟩ := key n os (srt xs) (srt_len xs)
    subst hw
    exact h _ (back _ B _ ⟨o', hB⟩ (f.mono fun b _ hb => hb ▸ hB _ ⟨q, hq, rfl⟩) (fun _ h => Or.inl h) fun b hb => Nat.lt_of_lt_of_le (hlt b hb).2 f.size)

end Go.Proofs.YtnmgjpcooncjlaaGreat

/- The calls that change a store of the package intern, from their texts. -/
set_option linter.unusedVariables false
set_option linter.unusedSimpArgs false
namespace Go.Proofs.YtnmgjpcooncjlaaGreat
open Go.Den

variable {w0 : World} {B : Nat → Prop} {p : Addr} {most : Int} {L : List ET}

theorem intern_add_spec {e : ET} (st : Sto B w0 p most L) (hn : lkR L e.1 = none) (hl : (L.length : Int) < most) (hg : Grow (L ++ [e])) {K : Int → World → Prop}
    (h : ∀ w' B', Step B B' w0 w' → Sto B' w' p most (L ++ [e]) → K ((L.length : Int) + 1) w') : C_intern_Store_add (some p) e K w0 := by
  apply S_intern_Store_add
  unfold F_intern_Store_add
  have hmb := st.most0
  obtain ⟨sl, m, h1, h2, h3, h4, n1, n2, n3, b1, b2, b3⟩ := st.mem
  refine (St.start w0 st.lt).allocK fun a1 w1 s e1 _ => s.drawK fun w2 s e2 _ => nonNil_some ⟨sl, ((h1.ext e1).ext e2).sub 1 rfl, s.ld0 0 rfl rfl (s.allocK fun a5 w3 s e3 _ => ⟨(((h1.ext e1).ext e2).ext e3).sub 1 rfl, ?_⟩)⟩
  have e03 : Ext w0 w3 := (e1.trans e2).trans e3
  have hv : View yintern_entry w3 ⟨some ⟨a5, 0, none⟩, 1, 1⟩ [e] := ⟨rfl, fun q hq => by
    cases hq
    have := s.at_ (i := 0) rfl
    have he : flat yintern_entry [e] = cells yintern_entry e := by simp [flat]
    rw [he]; exact this, fun _ => ⟨_, rfl⟩⟩
  refine (h4.ext e03).app hv 1 rfl rfl rfl rfl (by decide) ?_ fun s6 w4 o6 f4 hnew => ?_
  · simp only [List.length_cons, List.length_nil]; omega
  have hsub : ∀ b, blk s6 b → B b ∨ blk s6 b := fun b hb => Or.inr hb
  let B' : Nat → Prop := fun b => B b ∨ blk s6 b
  have k4 : Step B B' w3 w4 := ⟨f4.mono fun b _ hb => b3 b hb, fun b hb => by
    rcases hb with hb | hb
    · exact Or.inl hb
    · rcases hnew b hb with hb | hb
      · exact Or.inl (b3 b hb)
      · exact Or.inr (by omega), fun b hb => Or.inl hb⟩
  have hlt : ∀ b, B' b → b < w4.heap.size := fun b hb => by
    rcases hb with hb | hb
    · exact Nat.lt_of_lt_of_le (Nat.lt_of_lt_of_le (st.lt b hb) e03.size) f4.size
    · exact o6.lt b hb
  have s4 := s.stp k4 hlt
  have h1' := (h1.ext e03).fr f4 n2
  have h2' := (h2.ext e03).fr f4 n2
  have h3' := (h3.ext e03).fr f4 n3
  have p6 : ¬ blk s6 p.block := fun hb => by
    rcases hnew _ hb with hb | hb
    · exact n2 hb
    · have := st.lt _ b1; have := e03.size; omega
  have m6 : ¬ blk s6 m := fun hb => by
    rcases hnew _ hb with hb | hb
    · exact n3 hb
    · have := st.lt _ b2; have := e03.size; omega
  refine nonNil_some (show stK w4 (p.add 1) [.slice s6.a s6.len s6.cap] _ from ⟨h2'.sub 1 1 (by decide), rfl, ?_⟩)
  have f5 := setCells_fr w4 (p.add 1) 0 [.slice s6.a s6.len s6.cap]
  rw [add_block] at f5
  have hat5 := h1'.splice (off := 1) (ds := [.slice s6.a s6.len s6.cap]) (h2'.sub 1 1 (by decide)) (Nat.le_succ 2)
  have hwr5 := h2'.set (a := p.add 1) (cs := [.slice s6.a s6.len s6.cap]) (h2'.sub 1 1 (by decide))
  generalize hw5 : setCells w4 (p.add 1) 0 [.slice s6.a s6.len s6.cap] = w5 at f5 hat5 hwr5 ⊢
  have k5 : Step B' B' w4 w5 := ⟨f5.mono fun b _ hb => Or.inl (by rw [hb]; exact b1), fun b hb => Or.inl hb, fun b hb => hb⟩
  have s5 := s4.stp k5 (fun b hb => Nat.lt_of_lt_of_le (hlt b hb) f5.size)
  refine nonNil_some ⟨s6, hat5.sub 1 rfl, s5.drawK fun w6 s6' e6 _ => nonNil_some ⟨some m, (hat5.ext e6).sub 2 rfl, s6'.ld (ty := yapi_Rule) (x := e.1) 1 0 rfl rfl ?_⟩⟩
  have o5 := o6.fr f5 (fun b hb e => p6 (by rw [← e]; exact hb))
  have m5 := (h3'.fr f5 (fun e => n1 e.symm)).ext e6
  have hlen := o6.view.len
  simp only [List.length_append, List.length_cons, List.length_nil] at hlen
  refine up_run (kt := yapi_Rule) (vt := .int .i64) (by decide) mapRule eqRule (by simp) m5 e.1 (s6.len : Int) hn fun w7 f7 m7 => ?_
  have hl6 : (s6.len : Int) = (L.length : Int) + 1 := by omega
  rw [hl6] at m7 ⊢
  rw [← idx_append] at m7
  refine h w7 B' ?_ ⟨hg, hmb, ?_, ⟨s6, m, ((hat5.ext e6).fr f7 (fun e => n1 e)), ((hwr5.ext e6).fr f7 (fun e => n1 e)), m7, (o5.ext e6).fr f7 (fun b hb e => m6 (by rw [← e]; exact hb)), n1, p6, m6, Or.inl b1, Or.inl b2, fun b hb => Or.inr hb⟩, ?_⟩
  · have k7 : Step B' B' w6 w7 := ⟨f7.mono fun b _ hb => Or.inl (by rw [hb]; exact b2), fun b hb => Or.inl hb, fun b hb => hb⟩
    exact ((k4.pre e03).trans k5).trans ((Step.ofExt e6).trans k7)
  · simp only [List.length_append, List.length_cons, List.length_nil]; omega
  · intro b hb
    exact Nat.lt_of_lt_of_le (Nat.lt_of_lt_of_le (Nat.lt_of_lt_of_le (hlt b hb) f5.size) e6.size) f7.size

/-- the end of Letter, Pair and Power: what was found, or the new entry -/
theorem pAdd_some {e : ET} {i : Int} (h : lkR L e.1 = some i) : pFind L most e.1 = (i, .nilIface) ∧ pAdd L most e = (L, (i, .nilIface)) ∧ i ≠ 0 := by
  have := (lkR_pos h).1
  unfold pFind pAdd
  rw [h]
  exact ⟨rfl, rfl, by omega⟩
theorem pAdd_full {e : ET} (h : lkR L e.1 = none) (hm : most ≤ L.length) : pFind L most e.1 = (0, errV 3) ∧ pAdd L most e = (L, (0, errV 3)) := by
  unfold pFind pAdd
  rw [h]
  simp only [if_pos hm, and_self]
theorem pAdd_new {e : ET} (h : lkR L e.1 = none) (hm : ¬ most ≤ L.length) : pFind L most e.1 = (0, .nilIface) ∧ pAdd L most e = (L ++ [e], ((L.length : Int) + 1, .nilIface)) := by
  unfold pFind pAdd
  rw [h]
  simp only [if_neg hm, and_self]

theorem intern_Letter_nil {b : Int} {K : Int × Value → World → Prop} (h : K (0, errV 5) w0) : C_intern_Store_Letter none b K w0 := by
  apply S_intern_Store_Letter
  unfold F_intern_Store_Letter
  exact gd_t rfl h
theorem intern_Letter_spec {b : Int} (st : Sto B w0 p most L) (hb : 0 ≤ b ∧ b < 256) {K : Int × Value → World → Prop}
    (h : ∀ w' B', Step B B' w0 w' → Sto B' w' p most (pLetter L most b).1 → K (pLetter L most b).2 w') : C_intern_Store_Letter (some p) b K w0 := by
  apply S_intern_Store_Letter
  unfold F_intern_Store_Letter
  refine gd_f rfl ((St.init w0).allocK fun b1 w1 s e1 _ => s.st0 0 rfl rfl rfl fun w2 s _ => s.ld0 (x := (_, _, _, _, _)) 0 rfl rfl (intern_find_spec (st.ext s.fr) fun w3 e3 => ?_))
  have s3 := s.ext e3
  have hE : (mkLetter b).1 = (1, b, 0, 0, 0) := rfl
  unfold pLetter at h
  cases hl : lkR L (mkLetter b).1 with
  | some i =>
    obtain ⟨q1, q2, q3⟩ := pAdd_some (most := most) hl
    rw [q2] at h
    rw [hE] at q1
    rw [q1]
    refine ⟨fun x w => x.1 = true ∧ w = w3, gd_t (by simpa using q3) ⟨rfl, rfl⟩, ?_⟩
    rintro x w ⟨hx, rfl⟩ _
    exact gd_t hx (h _ B (.ofExt s3.fr) (st.ext s3.fr))
  | none =>
    by_cases hm : most ≤ L.length
    · obtain ⟨q1, q2⟩ := pAdd_full (most := most) hl hm
      rw [q2] at h
      rw [hE] at q1
      rw [q1]
      refine ⟨fun x w => x.1 = true ∧ w = w3, gd_f rfl (nilIfc_err ⟨rfl, rfl⟩), ?_⟩
      rintro x w ⟨hx, rfl⟩ _
      exact gd_t hx (h _ B (.ofExt s3.fr) (st.ext s3.fr))
    · obtain ⟨q1, q2⟩ := pAdd_new (most := most) hl hm
      rw [q2] at h
      rw [hE] at q1
      rw [q1]
      refine ⟨fun x w => x.1 = false ∧ w = w3, gd_f rfl (nilIfc_nil ⟨rfl, rfl⟩), ?_⟩
      rintro x w ⟨hx, rfl⟩ _
      refine gd_f hx (s3.drawK fun w5 s5 _ _ => s5.ld0 (ty := yapi_Rule) (x := (1, b, 0, 0, 0)) 0 rfl rfl (weight_Letter_spec hb fun w6 e6 => ⟨(s5.ext e6).at_ (i := 0) rfl, ?_⟩))
      have s6 := s5.ext e6
      exact intern_add_spec (e := mkLetter b) (st.ext s6.fr) hl (by omega) (.letter st.grow hb.1 hb.2 hl) fun w' B' k st' => h _ B' (.pre s6.fr k) st'

theorem intern_Len_nil {K : Int → World → Prop} (h : K 0 w0) : C_intern_Store_Len none K w0 := by
  apply S_intern_Store_Len
  unfold F_intern_Store_Len
  exact gd_t rfl h
theorem intern_Len_spec (st : Sto B w0 p most L) {K : Int → World → Prop} (h : K L.length w0) : C_intern_Store_Len (some p) K w0 := by
  apply S_intern_Store_Len
  unfold F_intern_Store_Len
  obtain ⟨sl, m, h1, _, _, h4, _⟩ := st.mem
  have e := h4.view.len
  refine gd_f rfl (nonNil_some ⟨sl, h1.sub 1 rfl, ?_⟩)
  rw [e]; exact h
theorem intern_Room_nil {K : Int → World → Prop} (h : K 0 w0) : C_intern_Store_Room none K w0 := by
  apply S_intern_Store_Room
  unfold F_intern_Store_Room
  exact gd_t rfl h
theorem intern_Room_spec (st : Sto B w0 p most L) {K : Int → World → Prop} (h : ∀ w', Ext w0 w' → K (most - L.length) w') : C_intern_Store_Room (some p) K w0 := by
  apply S_intern_Store_Room
  unfold F_intern_Store_Room
  obtain ⟨sl, m, h1, _, _, h4, _⟩ := st.mem
  have e := h4.view.len
  have hm := st.most0
  have hl := st.len
  refine gd_f rfl ((St.init w0).drawK fun w1 s _ _ => nonNil_some ⟨most, (h1.ext s.fr).sub 0 rfl, nonNil_some ⟨sl, (h1.ext s.fr).sub 1 rfl, ?_⟩⟩)
  rw [e]
  exact arith_i64 (by omega) (by omega) (h _ s.fr)

end Go.Proofs.YtnmgjpcooncjlaaGreat

/- Pair, Power and the asks of a store of the package intern, from their texts. -/
set_option linter.unusedVariables false
set_option linter.unusedSimpArgs false
namespace Go.Proofs.YtnmgjpcooncjlaaGreat
open Go.Den

variable {w0 : World} {B : Nat → Prop} {p : Addr} {most : Int} {L : List ET}

theorem intern_add_as {e e' : ET} (he : e' = e) (st : Sto B w0 p most L) (hn : lkR L e.1 = none) (hl : (L.length : Int) < most) (hg : Grow (L ++ [e])) {K : Int → World → Prop}
    (h : ∀ w' B', Step B B' w0 w' → Sto B' w' p most (L ++ [e]) → K ((L.length : Int) + 1) w') : C_intern_Store_add (some p) e' K w0 := by
  subst he
  exact intern_add_spec st hn hl hg h

theorem intern_Pair_nil {l r : Int} {K : Int × Value → World → Prop} (h : K (0, errV 5) w0) : C_intern_Store_Pair none l r K w0 := by
  apply S_intern_Store_Pair
  unfold F_intern_Store_Pair
  exact gd_t rfl h
theorem intern_Pair_spec {l r : Int} (st : Sto B w0 p most L) {K : Int × Value → World → Prop}
    (h : ∀ w' B', Step B B' w0 w' → Sto B' w' p most (pPair L most l r).1 → K (pPair L most l r).2 w') : C_intern_Store_Pair (some p) l r K w0 := by
  apply S_intern_Store_Pair
  unfold F_intern_Store_Pair
  have hm0 := st.most0
  have hlen := st.len
  refine gd_f rfl ⟨fun x w => x.1 = !(known L l && known L r) ∧ w = w0, ?_, ?_⟩
  · cases hk : known L l
    · exact intern_known_spec st (by rw [hk]; exact gd_t rfl ⟨rfl, rfl⟩)
    · exact intern_known_spec st (by rw [hk]; exact gd_f rfl (intern_known_spec st ⟨rfl, rfl⟩))
  rintro x w ⟨hx, rfl⟩ _
  by_cases hu : known L l = false ∨ known L r = false
  · have hp : pPair L most l r = (L, (0, errV 1)) := by unfold pPair; rw [if_pos hu]
    rw [hp] at h
    refine gd_t ?_ (h _ B (.ofExt (.refl _ _)) st)
    rw [hx]
    rcases hu with hu | hu <;> simp [hu]
  have hkl : known L l = true := by
    cases e : known L l
    · exact absurd (Or.inl e) hu
    · rfl
  have hkr : known L r = true := by
    cases e : known L r
    · exact absurd (Or.inr e) hu
    · rfl
  have bl := of_decide_eq_true hkl
  have br := of_decide_eq_true hkr
  refine gd_f (by rw [hx, hkl, hkr]; rfl) (gd_eq (fun hl0 => ?_) (fun hl0 => gd_eq (fun hr0 => ?_) (fun hr0 => ?_)))
  · have hp : pPair L most l r = (L, (r, .nilIface)) := by unfold pPair; rw [if_neg hu, if_pos hl0]
    rw [hp] at h
    exact h _ B (.ofExt (.refl _ _)) st
  · have hp : pPair L most l r = (L, (l, .nilIface)) := by unfold pPair; rw [if_neg hu, if_neg hl0, if_pos hr0]
    rw [hp] at h
    exact h _ B (.ofExt (.refl _ _)) st
  obtain ⟨wl, dl0, dl1, pl⟩ := st.grow.at_ bl.1 bl.2
  obtain ⟨wr, dr0, dr1, pr⟩ := st.grow.at_ br.1 br.2
  refine intern_at_spec st hkl fun w4 e4 => intern_at_spec (st.ext e4) hkr fun w5 e5 => ?_
  have s := (St.init w).ext (e4.trans e5)
  refine s.allocK fun a7 w6 s _ _ => s.allocK fun a8 w7 s _ _ => s.st0 1 rfl (by rw [cells_length]; rfl) rfl fun w8 s _ => s.st0 0 rfl (by rw [cells_length]; rfl) rfl fun w9 s _ => s.ldi 1 5 rfl rfl (s.ldi 0 5 rfl rfl ?_)
  refine length_Add_spec wl.len wr.len (fun hle => ?_) (fun hgt => ?_)
  rotate_left
  · have hp : pPair L most l r = (L, (0, errV 2)) := by unfold pPair; rw [if_neg hu, if_neg hl0, if_neg hr0, if_pos hgt]
    rw [hp] at h
    exact nilIfc_err (gd_t rfl (h _ B (.ofExt s.fr) (st.ext s.fr)))
  have hp : pPair L most l r = pAdd L most (mkPair L l r) := by unfold pPair; rw [if_neg hu, if_neg hl0, if_neg hr0, if_neg (by omega)]
  rw [hp] at h
  have hg : lkR L (mkPair L l r).1 = none → Grow (L ++ [mkPair L l r]) := .pair st.grow (by omega) bl.2 (by omega) br.2 hle
  refine nilIfc_nil (gd_f rfl (s.allocK fun a13 w11 s _ _ => s.st0 0 rfl rfl rfl fun w12 s _ => s.ld0 (ty := yapi_Rule) (x := (2, 0, l, r, 0)) 0 rfl rfl (intern_find_spec (st.ext s.fr) fun w13 e13 => ?_)))
  replace s := s.ext e13
  have hE : (mkPair L l r).1 = (2, 0, l, r, 0) := rfl
  cases hl : lkR L (mkPair L l r).1 with
  | some i =>
    obtain ⟨q1, q2, q3⟩ := pAdd_some (most := most) hl
    rw [q2] at h
    rw [hE] at q1
    rw [q1]
    refine ⟨fun x w => x.1 = true ∧ w = w13, gd_t (by simpa using q3) ⟨rfl, rfl⟩, ?_⟩
    rintro x w ⟨hx, rfl⟩ _
    exact gd_t hx (h _ B (.ofExt s.fr) (st.ext s.fr))
  | none =>
    by_cases hm : most ≤ L.length
    · obtain ⟨q1, q2⟩ := pAdd_full (most := most) hl hm
      rw [q2] at h
      rw [hE] at q1
      rw [q1]
      refine ⟨fun x w => x.1 = true ∧ w = w13, gd_f rfl (nilIfc_err ⟨rfl, rfl⟩), ?_⟩
      rintro x w ⟨hx, rfl⟩ _
      exact gd_t hx (h _ B (.ofExt s.fr) (st.ext s.fr))
    · obtain ⟨q1, q2⟩ := pAdd_new (most := most) hl hm
      rw [q2] at h
      rw [hE] at q1
      rw [q1]
      refine ⟨fun x w => x.1 = false ∧ w = w13, gd_f rfl (nilIfc_nil ⟨rfl, rfl⟩), ?_⟩
      rintro x w ⟨hx, rfl⟩ _
      refine gd_f hx (s.ld (ty := yapi_Weight) (x := (eAt L l).2.1) 2 5 rfl rfl (s.ld (ty := yapi_Weight) (x := (eAt L r).2.1) 1 5 rfl rfl (weight_Join_spec wl wr hle fun w15 e15 => ?_)))
      replace s := s.ext e15
      refine s.allocK fun a22 w16 s _ _ => s.st0 0 rfl (by rw [cells_length]; rfl) rfl fun w17 s _ => nilIfc_nil (gd_f rfl (s.ldi 3 11 rfl rfl (s.ldi 2 11 rfl rfl (arith_i64 (by omega) (by omega) ?_))))
      refine s.ld0 (ty := yapi_Rule) (x := (2, 0, l, r, 0)) 1 rfl rfl (s.ld0 (ty := yapi_Weight) (x := wJoin (eAt L l).2.1 (eAt L r).2.1) 0 rfl rfl (s.ldi 3 11 rfl rfl (s.ldi 2 11 rfl rfl (arith_i64 (by split <;> omega) (by split <;> omega) ?_))))
      have fin : ∀ b : Bool, b = ((eAt L l).2.2.2 && (eAt L r).2.2.2 && decide (-1 ≤ (eAt L l).2.2.1 - (eAt L r).2.2.1) && decide ((eAt L l).2.2.1 - (eAt L r).2.2.1 ≤ 1)) →
          C_intern_Store_add (some p) ((2, 0, l, r, 0), wJoin (eAt L l).2.1 (eAt L r).2.1, 1 + (if (eAt L l).2.2.1 < (eAt L r).2.2.1 then (eAt L r).2.2.1 else (eAt L l).2.2.1), b) (fun x w => K (x, .nilIface) w) w17 :=
        fun b hb => intern_add_as (e := mkPair L l r) (by rw [hb]; rfl) (st.ext s.fr) hl (by omega) (hg hl) fun w' B' k st' => h _ B' (.pre s.fr k) st'
      refine s.ldb 3 12 rfl rfl (gd_mk (fun h1 => s.ldb 2 12 rfl rfl (gd_mk (fun h2 => gd_dec (fun h3 => ?_) (fun h3 => ?_)) (fun h2 => ?_))) (fun h1 => ?_))
      · exact fin _ (by rw [h1, h2, decide_eq_true h3]; rfl)
      · exact fin _ (by rw [h1, h2, decide_eq_false h3]; rfl)
      · exact fin _ (by rw [h1, h2]; rfl)
      · exact fin _ (by rw [h1]; rfl)

theorem intern_Power_nil {x k : Int} {K : Int × Value → World → Prop} (h : K (0, errV 5) w0) : C_intern_Store_Power none x k K w0 := by
  apply S_intern_Store_Power
  unfold F_intern_Store_Power
  exact gd_t rfl h
theorem intern_Power_spec {x k : Int} (hk : k ≤ 9223372036854775807) (st : Sto B w0 p most L) {K : Int × Value → World → Prop}
    (h : ∀ w' B', Step B B' w0 w' → Sto B' w' p most (pPower L most x k).1 → K (pPower L most x k).2 w') : C_intern_Store_Power (some p) x k K w0 := by
  apply S_intern_Store_Power
  unfold F_intern_Store_Power
  have hm0 := st.most0
  have hlen := st.len
  refine gd_f rfl ⟨fun y w => y.1 = decide (known L x = false ∨ k < 0) ∧ w = w0, ?_, ?_⟩
  · cases hk : known L x
    · exact intern_known_spec st (by rw [hk]; exact gd_t rfl ⟨by simp, rfl⟩)
    · exact intern_known_spec st (by rw [hk]; exact gd_f rfl ⟨by simp, rfl⟩)
  rintro y w ⟨hy, rfl⟩ _
  by_cases hu : known L x = false ∨ k < 0
  · have hp : pPower L most x k = (L, (0, errV 1)) := by unfold pPower; rw [if_pos hu]
    rw [hp] at h
    exact gd_t (by rw [hy]; exact decide_eq_true hu) (h _ B (.ofExt (.refl _ _)) st)
  have hkx : known L x = true := by
    cases e : known L x
    · exact absurd (Or.inl e) hu
    · rfl
  have bx := of_decide_eq_true hkx
  have hk0 : 0 ≤ k := by
    rcases Int.lt_or_le k 0 with h | h
    · exact absurd (Or.inr h) hu
    · exact h
  refine gd_f (by rw [hy]; exact decide_eq_false hu) ⟨fun y v => y.1 = decide (k = 0 ∨ x = 0) ∧ v = w, ?_, ?_⟩
  · exact gd_eq (fun e => ⟨by simp [e], rfl⟩) (fun e => ⟨by simp only [e, false_or]; rfl, rfl⟩)
  rintro y v ⟨hy, rfl⟩ _
  by_cases hz : k = 0 ∨ x = 0
  · have hp : pPower L most x k = (L, (0, .nilIface)) := by unfold pPower; rw [if_neg hu, if_pos hz]
    rw [hp] at h
    exact gd_t (by rw [hy]; exact decide_eq_true hz) (h _ B (.ofExt (.refl _ _)) st)
  refine gd_f (by rw [hy]; exact decide_eq_false hz) (gd_eq (fun h1 => ?_) (fun h1 => ?_))
  · have hp : pPower L most x k = (L, (x, .nilIface)) := by unfold pPower; rw [if_neg hu, if_neg hz, if_pos h1]
    rw [hp] at h
    exact h _ B (.ofExt (.refl _ _)) st
  obtain ⟨wx, dx0, dx1, px⟩ := st.grow.at_ bx.1 bx.2
  refine intern_at_spec st hkx fun w4 e4 => ?_
  have s := (St.init v).ext e4
  refine s.allocK fun a7 w5 s _ _ => s.st0 0 rfl (by rw [cells_length]; rfl) rfl fun w6 s _ => s.ldi 0 5 rfl rfl ?_
  refine length_Mul_spec wx.len hk0 (fun hle => ?_) (fun hgt => ?_)
  rotate_left
  · have hp : pPower L most x k = (L, (0, errV 2)) := by unfold pPower; rw [if_neg hu, if_neg hz, if_neg h1, if_pos hgt]
    rw [hp] at h
    exact nilIfc_err (gd_t rfl (h _ B (.ofExt s.fr) (st.ext s.fr)))
  have hp : pPower L most x k = pAdd L most (mkPower L x k) := by unfold pPower; rw [if_neg hu, if_neg hz, if_neg h1, if_neg (by omega)]
  rw [hp] at h
  have hg : lkR L (mkPower L x k).1 = none → Grow (L ++ [mkPower L x k]) := .power st.grow (by omega) bx.2 (by omega) hle
  refine nilIfc_nil (gd_f rfl (s.allocK fun a11 w8 s _ _ => s.st0 0 rfl rfl rfl fun w9 s _ => s.ld0 (ty := yapi_Rule) (x := (3, 0, x, 0, k)) 0 rfl rfl (intern_find_spec (st.ext s.fr) fun w10 e10 => ?_)))
  replace s := s.ext e10
  have hE : (mkPower L x k).1 = (3, 0, x, 0, k) := rfl
  cases hl : lkR L (mkPower L x k).1 with
  | some i =>
    obtain ⟨q1, q2, q3⟩ := pAdd_some (most := most) hl
    rw [q2] at h
    rw [hE] at q1
    rw [q1]
    refine ⟨fun x w => x.1 = true ∧ w = w10, gd_t (by simpa using q3) ⟨rfl, rfl⟩, ?_⟩
    rintro x w ⟨hx, rfl⟩ _
    exact gd_t hx (h _ B (.ofExt s.fr) (st.ext s.fr))
  | none =>
    by_cases hm : most ≤ L.length
    · obtain ⟨q1, q2⟩ := pAdd_full (most := most) hl hm
      rw [q2] at h
      rw [hE] at q1
      rw [q1]
      refine ⟨fun x w => x.1 = true ∧ w = w10, gd_f rfl (nilIfc_err ⟨rfl, rfl⟩), ?_⟩
      rintro x w ⟨hx, rfl⟩ _
      exact gd_t hx (h _ B (.ofExt s.fr) (st.ext s.fr))
    · obtain ⟨q1, q2⟩ := pAdd_new (most := most) hl hm
      rw [q2] at h
      rw [hE] at q1
      rw [q1]
      refine ⟨fun x w => x.1 = false ∧ w = w10, gd_f rfl (nilIfc_nil ⟨rfl, rfl⟩), ?_⟩
      rintro y w ⟨hx, rfl⟩ _
      refine gd_f hx (s.ld (ty := yapi_Weight) (x := (eAt L x).2.1) 1 5 rfl rfl (weight_Repeat_spec wx ⟨hk0, hk⟩ hle fun w12 e12 => ?_))
      replace s := s.ext e12
      refine s.allocK fun a19 w13 s _ _ => s.st0 0 rfl (by rw [cells_length]; rfl) rfl fun w14 s _ => nilIfc_nil (gd_f rfl ?_)
      refine s.ld0 (ty := yapi_Rule) (x := (3, 0, x, 0, k)) 1 rfl rfl (s.ld0 (ty := yapi_Weight) (x := wRep (eAt L x).2.1 k) 0 rfl rfl (s.ldi 2 11 rfl rfl (arith_i64 (by omega) (by omega) ?_)))
      exact intern_add_as (e := mkPower L x k) rfl (st.ext s.fr) hl (by omega) (hg hl) fun w' B' k st' => h _ B' (.pre s.fr k) st'

/-! ### Asks -/
theorem intern_Weight_nil {id : Int} {K : WT × Value → World → Prop} (h : ∀ w', Ext w0 w' → K ((0, 0, 0, 0, 0, 0), errV 5) w') : C_intern_Store_Weight none id K w0 := by
  apply S_intern_Store_Weight
  unfold F_intern_Store_Weight
  exact (St.init w0).allocK fun a1 w1 s _ _ => gd_t rfl (s.st0 0 rfl rfl rfl fun w2 s _ => s.ld0 (ty := yapi_Weight) (x := (0, 0, 0, 0, 0, 0)) 0 rfl rfl (h _ s.fr))
theorem intern_Weight_spec {id : Int} (st : Sto B w0 p most L) {K : WT × Value → World → Prop}
    (h : ∀ w', Ext w0 w' → K (if known L id then ((eAt L id).2.1, .nilIface) else ((0, 0, 0, 0, 0, 0), errV 1)) w') : C_intern_Store_Weight (some p) id K w0 := by
  apply S_intern_Store_Weight
  unfold F_intern_Store_Weight
  refine (St.init w0).allocK fun a1 w1 s e1 _ => gd_f rfl (intern_known_spec (st.ext e1) ?_)
  cases hk : known L id
  · simp only [hk] at h
    exact gd_t rfl (s.st0 0 rfl rfl rfl fun w2 s _ => s.ld0 (ty := yapi_Weight) (x := (0, 0, 0, 0, 0, 0)) 0 rfl rfl (h _ s.fr))
  · simp only [hk] at h
    refine gd_f rfl (intern_at_spec (st.ext e1) hk fun w5 e5 => ?_)
    exact (s.ext e5).st0 0 rfl rfl rfl fun w6 s _ => s.ld0 (ty := yapi_Weight) (x := (eAt L id).2.1) 0 rfl rfl (h _ s.fr)

theorem intern_Rule_nil {id : Int} {K : RT × Value → World → Prop} (h : ∀ w', Ext w0 w' → K ((0, 0, 0, 0, 0), errV 5) w') : C_intern_Store_Rule none id K w0 := by
  apply S_intern_Store_Rule
  unfold F_intern_Store_Rule
  exact (St.init w0).allocK fun a1 w1 s _ _ => gd_t rfl (s.st0 0 rfl rfl rfl fun w2 s _ => s.ld0 (ty := yapi_Rule) (x := (0, 0, 0, 0, 0)) 0 rfl rfl (h _ s.fr))
theorem intern_Import_nil {s : Sl} {K : Int × Value → World → Prop} (h : K (0, errV 5) w0) : C_intern_Store_Import none s K w0 := by
  apply S_intern_Store_Import
  unfold F_intern_Store_Import
  exact gd_t rfl h
theorem intern_Export_nil {id : Int} {K : Sl × Value → World → Prop} (h : K (⟨none, 0, 0⟩, errV 5) w0) : C_intern_Store_Export none id K w0 := by
  apply S_intern_Store_Export
  unfold F_intern_Store_Export
  exact gd_t rfl h
end Go.Proofs.YtnmgjpcooncjlaaGreat

/- The store of the package intern as one object of a state, and its asks. -/
set_option linter.unusedVariables false
set_option linter.unusedSimpArgs false
namespace Go.Proofs.YtnmgjpcooncjlaaGreat
open Go.Den

variable {w0 w : World} {Ω : List Ob} {p : Addr} {most : Int} {T : List ET} {i : Nat}

def sto (p : Addr) (most : Int) (T : List ET) : Ob := ⟨false, fun B w => Sto B w p most T, fun h f hB => h.fr f hB⟩
theorem Sp.sto_ (s : Sp w0 Ω w) (i : Nat) (hi : Ω[i]? = some (sto p most T)) : ∃ B, Sto B w p most T := by
  obtain ⟨B, h, _⟩ := s.get i hi
  exact ⟨B, h⟩
theorem Sp.stp (s : Sp w0 Ω w) (i : Nat) (hi : Ω[i]? = some (sto p most T)) : ∃ B, Sto B w p most T ∧ ∀ {T' : List ET} {B' : Nat → Prop} {w' : World}, Step B B' w w' → Sto B' w' p most T' → Sp w0 (Ω.set i (sto p most T')) w' := by
  obtain ⟨B, st, _, back⟩ := s.open i hi rfl
  exact ⟨B, st, fun k st' => back _ _ _ st' k.fr k.new st'.lt⟩

theorem intern_New_sp {m : Int} (s : Sp w0 Ω w) {K : Option Addr → World → Prop}
    (h : ∀ p w', Sp w0 (sto p (if m < 0 then 0 else if 1048576 < m then 1048576 else m) [] :: Ω) w' → K (some p) w') : C_intern_New m K w :=
  intern_New_spec fun p w' B e hB st => h p w' (s.push e st fun b hb => ⟨hB b hb, st.lt b hb⟩)
theorem intern_Letter_sp {b : Int} (s : Sp w0 Ω w) (i : Nat) (hi : Ω[i]? = some (sto p most T)) (hb : 0 ≤ b ∧ b < 256) {K : Int × Value → World → Prop}
    (h : ∀ w', Sp w0 (Ω.set i (sto p most (pLetter T most b).1)) w' → K (pLetter T most b).2 w') : C_intern_Store_Letter (some p) b K w := by
  obtain ⟨B, st, back⟩ := Sp.stp s i hi
  exact intern_Letter_spec st hb fun w' B' k st' => h w' (back k st')
theorem intern_Pair_sp {l r : Int} (s : Sp w0 Ω w) (i : Nat) (hi : Ω[i]? = some (sto p most T)) {K : Int × Value → World → Prop}
    (h : ∀ w', Sp w0 (Ω.set i (sto p most (pPair T most l r).1)) w' → K (pPair T most l r).2 w') : C_intern_Store_Pair (some p) l r K w := by
  obtain ⟨B, st, back⟩ := Sp.stp s i hi
  exact intern_Pair_spec st fun w' B' k st' => h w' (back k st')
theorem intern_Power_sp {x k : Int} (s : Sp w0 Ω w) (i : Nat) (hi : Ω[i]? = some (sto p most T)) (hk : k ≤ 9223372036854775807) {K : Int × Value → World → Prop}
    (h : ∀ w', Sp w0 (Ω.set i (sto p most (pPower T most x k).1)) w' → K (pPower T most x k).2 w') : C_intern_Store_Power (some p) x k K w := by
  obtain ⟨B, st, back⟩ := Sp.stp s i hi
  exact intern_Power_spec hk st fun w' B' k st' => h w' (back k st')
theorem intern_Len_sp (s : Sp w0 Ω w) (i : Nat) (hi : Ω[i]? = some (sto p most T)) {K : Int → World → Prop} (h : K T.length w) : C_intern_Store_Len (some p) K w := by
  obtain ⟨B, st⟩ := Sp.sto_ s i hi
  exact intern_Len_spec st h
theorem intern_Room_sp (s : Sp w0 Ω w) (i : Nat) (hi : Ω[i]? = some (sto p most T)) {K : Int → World → Prop} (h : ∀ w', Sp w0 Ω w' → K (most - T.length) w') : C_intern_Store_Room (some p) K w := by
  obtain ⟨B, st⟩ := Sp.sto_ s i hi
  exact intern_Room_spec st fun w' e => h w' (s.toExt e)
theorem intern_known_sp {id : Int} (s : Sp w0 Ω w) (i : Nat) (hi : Ω[i]? = some (sto p most T)) {K : Bool → World → Prop} (h : K (known T id) w) : C_intern_Store_known (some p) id K w := by
  obtain ⟨B, st⟩ := Sp.sto_ s i hi
  exact intern_known_spec st h
theorem intern_at_sp {id : Int} (s : Sp w0 Ω w) (i : Nat) (hi : Ω[i]? = some (sto p most T)) (hk : known T id = true) {K : ET → World → Prop} (h : ∀ w', Sp w0 Ω w' → K (eAt T id) w') : C_intern_Store_at (some p) id K w := by
  obtain ⟨B, st⟩ := Sp.sto_ s i hi
  exact intern_at_spec st hk fun w' e => h w' (s.toExt e)
theorem intern_Weight_sp {id : Int} (s : Sp w0 Ω w) (i : Nat) (hi : Ω[i]? = some (sto p most T)) {K : WT × Value → World → Prop}
    (h : ∀ w', Sp w0 Ω w' → K (if known T id then ((eAt T id).2.1, .nilIface) else ((0, 0, 0, 0, 0, 0), errV 1)) w') : C_intern_Store_Weight (some p) id K w := by
  obtain ⟨B, st⟩ := Sp.sto_ s i hi
  exact intern_Weight_spec st fun w' e => h w' (s.toExt e)
/-- the list in memory, read by a number -/
theorem Sp.entry (s : Sp w0 Ω w) (i : Nat) (hi : Ω[i]? = some (sto p most T)) : ∃ sl : Sl, At w (p.add 1) (cells .slice sl) ∧ View yintern_entry w sl T ∧ 0 ≤ most ∧ most ≤ 1048576 ∧ (T.length : Int) ≤ most ∧ Grow T := by
  obtain ⟨B, st⟩ := Sp.sto_ s i hi
  have hm := st.most0
  obtain ⟨sl, m, h1, _, _, h4, _⟩ := st.mem
  exact ⟨sl, h1.sub 1 rfl, h4.view, hm.1, hm.2, st.len, st.grow⟩
theorem Sp.ids (s : Sp w0 Ω w) (i : Nat) (hi : Ω[i]? = some (sto p most T)) : ∃ m : Nat, At w (p.add 2) (cells .map (some m)) ∧ MapIs yapi_Rule (.int .i64) w m (idx T) := by
  obtain ⟨B, st⟩ := Sp.sto_ s i hi
  obtain ⟨sl, m, h1, _, h3, _⟩ := st.mem
  exact ⟨m, h1.sub 2 rfl, h3⟩
def isRule (T : List ET) (id : Int) : Bool := decide (1 ≤ id ∧ id ≤ T.length)
theorem intern_Rule_sp {id : Int} (s : Sp w0 Ω w) (i : Nat) (hi : Ω[i]? = some (sto p most T)) {K : RT × Value → World → Prop}
    (h : ∀ w', Sp w0 Ω w' → K (if isRule T id then ((eAt T id).1, .nilIface) else ((0, 0, 0, 0, 0), errV 1)) w') : C_intern_Store_Rule (some p) id K w := by
  apply S_intern_Store_Rule
  unfold F_intern_Store_Rule
  obtain ⟨sl, hl, hv, h0, h1, hlen, hg⟩ := Sp.entry s i hi
  refine s.allocK fun b w1 s1 => gd_f rfl ⟨fun x w => x.1 = !(isRule T id) ∧ w = w1, ?_, ?_⟩
  · refine gd_eq (fun e => ⟨by subst e; rfl, rfl⟩) (fun e => intern_known_sp s1 (i + 1) hi ⟨?_, rfl⟩)
    have : known T id = isRule T id := decide_eq_decide.2 (by omega)
    rw [this]
  rintro ⟨x, _⟩ w2 ⟨hx, rfl⟩ _
  dsimp only at hx
  obtain ⟨sl, hl, hv, h0, h1, hlen, hg⟩ := Sp.entry s1 (i + 1) hi
  cases hk : isRule T id
  · rw [hk] at h hx
    exact gd_t hx (s1.st0 0 rfl rfl rfl fun w3 s3 => s3.ld0 (ty := yapi_Rule) (x := (0, 0, 0, 0, 0)) 0 rfl rfl (h _ s3.pop))
  · rw [hk] at h hx
    have hk' : 1 ≤ id ∧ id ≤ T.length := by simpa [isRule] using hk
    refine gd_f hx (nonNil_some ⟨sl, hl, arith_i64 (by omega) (by omega) (hv.idx (n := (id - 1).toNat) (by omega) (eAt_get hk'.1 hk'.2) rfl fun q hq => ?_)⟩)
    refine ⟨(eAt T id).1, hq.sub 0 rfl, s1.st0 0 rfl rfl rfl fun w3 s3 => s3.ld0 0 rfl rfl (h _ s3.pop)⟩
theorem intern_Rule_k {id : Int} (s : Sp w0 Ω w) (i : Nat) (hi : Ω[i]? = some (sto p most T)) (hk : 1 ≤ id ∧ id ≤ T.length) {K : RT × Value → World → Prop} (h : ∀ w', Sp w0 Ω w' → K ((eAt T id).1, .nilIface) w') : C_intern_Store_Rule (some p) id K w :=
  intern_Rule_sp s i hi fun w' s => by
    rw [if_pos (show isRule T id = true from decide_eq_true hk)]; exact h w' s
theorem intern_Rule_u {id : Int} (s : Sp w0 Ω w) (i : Nat) (hi : Ω[i]? = some (sto p most T)) (hk : ¬ (1 ≤ id ∧ id ≤ T.length)) {K : RT × Value → World → Prop} (h : ∀ w', Sp w0 Ω w' → K ((0, 0, 0, 0, 0), errV 1) w') : C_intern_Store_Rule (some p) id K w :=
  intern_Rule_sp s i hi fun w' s => by
    rw [if_neg (show ¬ isRule T id = true from by rw [isRule, decide_eq_false hk]; simp)]; exact h w' s
theorem intern_Weight_k {id : Int} (s : Sp w0 Ω w) (i : Nat) (hi : Ω[i]? = some (sto p most T)) (hk : 0 ≤ id ∧ id ≤ T.length) {K : WT × Value → World → Prop} (h : ∀ w', Sp w0 Ω w' → K ((eAt T id).2.1, .nilIface) w') : C_intern_Store_Weight (some p) id K w :=
  intern_Weight_sp s i hi fun w' s => by
    rw [if_pos (show known T id = true from decide_eq_true hk)]; exact h w' s
theorem intern_Weight_u {id : Int} (s : Sp w0 Ω w) (i : Nat) (hi : Ω[i]? = some (sto p most T)) (hk : ¬ (0 ≤ id ∧ id ≤ T.length)) {K : WT × Value → World → Prop} (h : ∀ w', Sp w0 Ω w' → K ((0, 0, 0, 0, 0, 0), errV 1) w') : C_intern_Store_Weight (some p) id K w :=
  intern_Weight_sp s i hi fun w' s => by
    rw [if_neg (show ¬ known T id = true from by rw [known, decide_eq_false hk]; simp)]; exact h w' s
theorem beqT_dec {t : Ty} (h : leafT t = true) {x y : t.T} [DecidableEq t.T] : beqT t x y = decide (x = y) := by
  cases hb : beqT t x y
  · exact (decide_eq_false fun e => by rw [(beqT_iff t h _ _).2 e] at hb; cases hb).symm
  · exact (decide_eq_true ((beqT_iff t h _ _).1 hb)).symm
theorem guardRule : P.eqGuardType P.depth t_api_Rule = false := by kernel_rfl
theorem rule_eql {xo yo : Operand} {x y : RT} {K : Bool → Prop} (h : K (decide (x = y))) : testK P (do eqGuard .eql t_api_Rule xo yo (val yapi_Rule x) (val yapi_Rule y); binOp .eql t_api_Rule (val yapi_Rule x) (val yapi_Rule y)) K :=
  test_eql (d := 2) (by decide) eqRule guardRule ((fun e : beqT yapi_Rule x y = decide (x = y) => e ▸ h) (beqT_dec (t := yapi_Rule) rfl))
theorem rule_neq {xo yo : Operand} {x y : RT} {K : Bool → Prop} (h : K (!decide (x = y))) : testK P (do eqGuard .neq t_api_Rule xo yo (val yapi_Rule x) (val yapi_Rule y); binOp .neq t_api_Rule (val yapi_Rule x) (val yapi_Rule y)) K :=
  test_neq (d := 2) (by decide) eqRule guardRule ((fun e : beqT yapi_Rule x y = decide (x = y) => e ▸ h) (beqT_dec (t := yapi_Rule) rfl))
theorem eqWeight : eqOK P 3 t_api_Weight yapi_Weight = true := by kernel_rfl
theorem guardWeight : P.eqGuardType P.depth t_api_Weight = false := by kernel_rfl
theorem weight_eql {xo yo : Operand} {x y : WT} {K : Bool → Prop} (h : K (decide (x = y))) : testK P (do eqGuard .eql t_api_Weight xo yo (val yapi_Weight x) (val yapi_Weight y); binOp .eql t_api_Weight (val yapi_Weight x) (val yapi_Weight y)) K :=
  test_eql (d := 3) (by decide) eqWeight guardWeight ((fun e : beqT yapi_Weight x y = decide (x = y) => e ▸ h) (beqT_dec (t := yapi_Weight) rfl))
theorem weight_neq {xo yo : Operand} {x y : WT} {K : Bool → Prop} (h : K (!decide (x = y))) : testK P (do eqGuard .neq t_api_Weight xo yo (val yapi_Weight x) (val yapi_Weight y); binOp .neq t_api_Weight (val yapi_Weight x) (val yapi_Weight y)) K :=
  test_neq (d := 3) (by decide) eqWeight guardWeight ((fun e : beqT yapi_Weight x y = decide (x = y) => e ▸ h) (beqT_dec (t := yapi_Weight) rfl))

end Go.Proofs.YtnmgjpcooncjlaaGreat

/- Bytes as a string. -/
set_option linter.unusedVariables false
set_option linter.unusedSimpArgs false
namespace Go.Proofs.YtnmgjpcooncjlaaGreat
open Go.Den

variable {w0 w : World} {Ω : List Ob}

def bstr (xs : List Int) : ByteArray := xs.foldl (fun r n => r.push (UInt8.ofNat n.toNat)) ByteArray.empty
theorem bstr_data (xs : List Int) : (bstr xs).data = (xs.map fun n => UInt8.ofNat n.toNat).toArray := by
  have key : ∀ (xs : List Int) (r : ByteArray), (xs.foldl (fun r n => r.push (UInt8.ofNat n.toNat)) r).data = r.data ++ (xs.map fun n => UInt8.ofNat n.toNat).toArray := by
    intro xs
    induction xs with
    | nil => intro r; simp
    | cons x xs ih =>
      intro r
      rw [List.foldl_cons, ih, ByteArray.data_push]
      simp
  rw [bstr, key]
  simp
theorem bstr_append (xs ys : List Int) : bstr xs ++ bstr ys = bstr (xs ++ ys) := by
  apply ByteArray.ext
  rw [ByteArray.data_append, bstr_data, bstr_data, bstr_data]
  simp
theorem bstr_size (xs : List Int) : (bstr xs).size = xs.length := by
  show (bstr xs).data.size = _
  rw [bstr_data]
  simp
theorem bstr_nil : bstr [] = (⟨#[]⟩ : ByteArray) := rfl
theorem underBytes : P.underlying t_sl_uint8 = some (.slice t_uint8) := by kernel_rfl
theorem underByte : P.underlying t_uint8 = some (.int .u8) := by kernel_rfl
theorem underString : P.underlying t_string = some .string := by kernel_rfl
theorem toStr {sl : Sl} {xs : List (Ty.int .u8).T} (v : View (.int .u8) w sl xs) {K : ByteArray → World → Prop} (h : K (bstr xs) w) : runK P .str (convert t_sl_uint8 t_string (.slice sl.a sl.len sl.cap)) w K := by
  refine ⟨bstr xs, w, ?_, h⟩
  rw [run_convert_bytes_string w _ _ _ _ _ _ underBytes underByte underString]
  cases hq : sl.a with
  | none =>
    have : xs = [] := by
      apply Classical.byContradiction
      intro hne
      obtain ⟨q, hq'⟩ := v.ne hne
      rw [hq] at hq'; cases hq'
    subst this
    rfl
  | some q =>
    have hm := v.mem q hq
    have hf : flat (.int .u8) xs = xs.map (Value.int .u8) := by
      clear v hm h
      induction xs with
      | nil => rfl
      | cons x xs ih => simp only [flat, List.flatMap_cons, List.map_cons] at ih ⊢; rw [ih]; rfl
    rw [hf] at hm
    exact run_bytesToString w q sl.len sl.cap xs (run_loadCells_at hm (by rw [List.length_map]; exact v.len.symm))

end Go.Proofs.YtnmgjpcooncjlaaGreat

/- law51: a table of names in memory (refs). -/
set_option linter.unusedVariables false
set_option linter.unusedSimpArgs false
namespace Go.Proofs.YtnmgjpcooncjlaaGreat
open Go.Den

variable {w0 w : World} {Ω : List Ob} {i j a b t r : Nat}

/-! ### Names -/
def NameOK (n : ByteArray) : Prop := 1 ≤ n.size ∧ n.size ≤ 32 ∧ ∀ (k : Nat) (h : k < n.size), (97 ≤ (n[k]).toNat ∧ (n[k]).toNat ≤ 122) ∨ (0 < k ∧ 48 ≤ (n[k]).toNat ∧ (n[k]).toNat ≤ 57)
theorem refs_Valid_spec {n : ByteArray} (hn : NameOK n) {K : Bool → World → Prop} (h : K true w) : C_refs_Valid n K w := by
  apply S_refs_Valid
  unfold F_refs_Valid
  obtain ⟨h1, h2, h3⟩ := hn
  refine JoinP.inl (gd_f (decide_eq_false (by omega)) ?_)
  intro _
  refine gd_f (decide_eq_false (by omega)) ?_
  refine loop_by (fun x => x.1) n.size (fun k _ w' => w' = w) rfl rfl ?_
  rintro k ⟨x, _⟩ w1 hk hx rfl _
  dsimp only at hx ⊢
  subst hx
  refine gd_dec (fun hlt => ?_) (fun hge => h)
  have hk' : k < n.size := by omega
  have hb := h3 k hk'
  refine ⟨fun _ w => w = w1, ⟨by omega, hk', ?_⟩, ?_⟩
  · simp only [Int.toNat_natCast]
    refine ⟨fun z w => z.1 = decide (97 ≤ (n[k]).toNat ∧ (n[k]).toNat ≤ 122) ∧ w = w1, gd_dec (fun c => ⟨?_, rfl⟩) (fun c => ⟨?_, rfl⟩), ?_⟩
    · dsimp only; rw [decide_eq_decide]; omega
    · rw [decide_eq_false (by omega)]
    rintro ⟨z, _⟩ w2 ⟨hz, rfl⟩ _
    dsimp only at hz ⊢
    subst hz
    refine gd_dec (fun c => rfl) (fun c => ?_)
    refine ⟨fun z w => z.1 = true ∧ w = w2, gd_dec (fun c2 => gd_dec (fun c3 => gd_dec (fun c4 => ⟨rfl, rfl⟩) (fun c4 => by omega)) (fun c3 => by omega)) (fun c2 => by omega), ?_⟩
    rintro ⟨z, _⟩ w3 ⟨hz, rfl⟩ _
    dsimp only at hz ⊢
    subst hz
    exact gd_t rfl rfl
  · rintro _ w2 rfl _
    exact arith_i64 (by omega) (by omega) (loop_nx hk' rfl)
def nameB (i : Nat) : ByteArray := bstr [110, 48 + ((i / 10 % 10 : Nat) : Int), 48 + ((i % 10 : Nat) : Int)]
theorem bstr_get (xs : List Int) (k : Nat) (h : k < (bstr xs).size) (x : Int) (hx : xs[k]? = some x) (h0 : 0 ≤ x ∧ x < 256) : ((bstr xs)[k]).toNat = x.toNat := by
  have e : (bstr xs)[k] = (bstr xs).data[k]'h := rfl
  have h1 : (bstr xs).data[k]? = some (UInt8.ofNat x.toNat) := by
    rw [bstr_data]
    simp [hx]
  have h2 := Array.getElem?_eq_getElem (xs := (bstr xs).data) (i := k) h
  rw [h1] at h2
  rw [e, ← Option.some.inj h2]
  simp
  omega
theorem nameB_ok (i : Nat) : NameOK (nameB i) := by
  have hs : (nameB i).size = 3 := bstr_size _
  refine ⟨by omega, by omega, fun k hk => ?_⟩
  have hk3 : k < 3 := by omega
  unfold nameB at hk ⊢
  match k, hk3 with
  | 0, _ => rw [bstr_get _ 0 hk 110 rfl (by decide)]; left; decide
  | 1, _ => rw [bstr_get _ 1 hk _ rfl (by omega)]; right; omega
  | 2, _ => rw [bstr_get _ 2 hk _ rfl (by omega)]; right; omega
theorem bstr_inj {xs ys : List Int} (hx : ∀ x ∈ xs, 0 ≤ x ∧ x < 256) (hy : ∀ y ∈ ys, 0 ≤ y ∧ y < 256) (h : bstr xs = bstr ys) : xs = ys := by
  have hd : (bstr xs).data = (bstr ys).data := by rw [h]
  rw [bstr_data, bstr_data] at hd
  have hl := congrArg Array.toList hd
  simp only at hl
  have hlen := congrArg List.length hl
  simp only [List.length_map] at hlen
  refine List.ext_getElem? fun n => ?_
  by_cases hn : n < xs.length
  · have h1 := congrArg (fun l => l[n]?) hl
    simp only [List.getElem?_map, List.getElem?_eq_getElem hn, List.getElem?_eq_getElem (show n < ys.length by omega), Option.map_some, Option.some.injEq] at h1
    have a1 := hx _ (List.getElem_mem hn)
    have a2 := hy _ (List.getElem_mem (show n < ys.length by omega))
    have h2 := congrArg UInt8.toNat h1
    simp at h2
    rw [List.getElem?_eq_getElem hn, List.getElem?_eq_getElem (show n < ys.length by omega)]
    congr 1
    omega
  · rw [List.getElem?_eq_none (by omega), List.getElem?_eq_none (by omega)]
theorem nameB_inj {i j : Nat} (hi : i < 100) (hj : j < 100) (h : nameB i = nameB j) : i = j := by
  have := bstr_inj (fun x hx => by simp at hx; omega) (fun x hx => by simp at hx; omega) h
  simp at this
  omega
theorem law51_name_spec {i : Nat} (s : Sp w0 Ω w) (hi : i < 1000000) {K : ByteArray → World → Prop} (h : ∀ w', Sp w0 Ω w' → K (nameB i) w') : C_law51_name (i : Int) K w := by
  apply S_law51_name
  unfold F_law51_name
  have e1 : Int.tdiv (i : Int) 10 = ((i / 10 : Nat) : Int) := by rw [Int.tdiv_eq_ediv_of_nonneg (by omega)]; omega
  refine ⟨by decide, arith_i64 (by omega) (by omega) ⟨by decide, letZ_mk ?_⟩⟩
  have e2 : Int.tmod (Int.tdiv (i : Int) 10) 10 = ((i / 10 % 10 : Nat) : Int) := by rw [e1]; rfl
  rw [e2]
  have m1 : ((i / 10 % 10 : Nat) : Int) % 256 = ((i / 10 % 10 : Nat) : Int) := by omega
  have m2 : (48 + ((i / 10 % 10 : Nat) : Int)) % 256 = 48 + ((i / 10 % 10 : Nat) : Int) := by omega
  have e3 : Int.tmod (i : Int) 10 = ((i % 10 : Nat) : Int) := rfl
  have m3 : ((i % 10 : Nat) : Int) % 256 = ((i % 10 : Nat) : Int) := by omega
  have m4 : (48 + ((i % 10 : Nat) : Int)) % 256 = 48 + ((i % 10 : Nat) : Int) := by omega
  refine arith_u8' ?_
  rw [m1]
  refine arith_u8' ?_
  rw [m2]
  refine ⟨by decide, letZ_mk ?_⟩
  rw [e3]
  refine arith_u8' ?_
  rw [m3]
  refine arith_u8' ?_
  rw [m4]
  refine s.allocK fun a8 w1 s => toStr ((s.lit (ty := .int .u8) 0 rfl [48 + ((i / 10 % 10 : Nat) : Int), 48 + ((i % 10 : Nat) : Int)] 2 rfl rfl).view 0 rfl) ⟨?_, ?_⟩
  · rw [bstr_size]
    show ((1 + 2 : Nat) : Int) ≤ 9223372036854775807
    decide
  · have e : (⟨#[110]⟩ : ByteArray) = bstr [110] := by rfl
    rw [e, bstr_append]
    exact h _ s.pop

/-! ### The table -/
abbrev TG := yrefs_target.T
structure Rt (Ω : List Ob) (a b t r : Nat) (m : List (ByteArray × TG)) : Prop where
  cell : Ω[a]? = some (cel t [.map (some r)])
  map : Ω[b]? = some (ms yrefs_target r m)
variable {m : List (ByteArray × TG)}
theorem Rt.cons {o : Ob} (R : Rt Ω a b t r m) : Rt (o :: Ω) (a + 1) (b + 1) t r m := ⟨R.cell, R.map⟩
theorem eqSt : eqOK P 1 t_string .str = true := by kernel_rfl
theorem mapST : P.underlying t_map_string_refs_target = some (.map t_string (mapElem t_map_string_refs_target)) := by kernel_rfl
theorem zeroST : zeroOf P (mapElem t_map_string_refs_target) = some (val yrefs_target ((0 : Int), false)) := by kernel_rfl
theorem Rt.get (R : Rt Ω a b t r m) (s : Sp w0 Ω w) (x : ByteArray) : Lk2 P t_map_string_refs_target yrefs_target (.map (some r)) (.string x) ((atS? m x).getD ((0 : Int), false)) (atS? m x).isSome w := by
  have := lk2_run (kt := .str) (vt := yrefs_target) (d := 1) (by decide) mapST eqSt (by simp) zeroST (s.ms_ b R.map).is x
  rwa [lkS_at] at this
theorem refs_New_spec (s : Sp w0 Ω w) {K : Option Addr → World → Prop} (h : ∀ t r w', Sp w0 (cel t [.map (some r)] :: ms yrefs_target r [] :: Ω) w' → K (some ⟨t, 0, none⟩) w') : C_refs_New K w := by
  apply S_refs_New
  unfold F_refs_New
  exact s.allocS yrefs_target fun r w1 s => s.allocK fun t w2 s => h t r w2 s
theorem refs_set_spec {x : ByteArray} {v : TG} (R : Rt Ω a b t r m) (s : Sp w0 Ω w) {K : Unit → World → Prop} (h : ∀ w', Sp w0 (Ω.set b (ms yrefs_target r (mupdS m x v))) w' → K () w') : C_refs_Table_set (some ⟨t, 0, none⟩) x v K w := by
  apply S_refs_Table_set
  unfold F_refs_Table_set
  refine s.allocK fun a1 w1 s => ?_
  refine ⟨fun _ w => Sp w0 (cel a1 (cells yrefs_target v) :: Ω) w, nonNil_some (s.ldm (x := some r) (a + 1) 0 R.cell rfl (gd_f rfl s)), ?_⟩
  clear s
  rintro _ w2 s _
  refine s.drawK fun w3 s => nonNil_some (s.ldm (x := some r) (a + 1) 0 R.cell rfl (s.ld0 (ty := yrefs_target) (x := v) 0 rfl rfl ?_))
  exact s.upS (vt := yrefs_target) (b + 1) R.map (d := 1) (by decide) mapST eqSt x v fun w4 s => h _ s.pop
theorem refs_Branch_spec {x : ByteArray} {n : Int} (R : Rt Ω a b t r m) (s : Sp w0 Ω w) (hx : NameOK x) (hn : 0 ≤ n) (hno : atS? m x = none) {K : Value → World → Prop} (h : ∀ w', Sp w0 (Ω.set b (ms yrefs_target r (mupdS m x (n, false)))) w' → K .nilIface w') : C_refs_Table_Branch (some ⟨t, 0, none⟩) x (-1) n K w := by
  apply S_refs_Table_Branch
  unfold F_refs_Table_Branch
  have hl := R.get s x
  rw [hno] at hl
  refine gd_f rfl (refs_Valid_spec hx (gd_f rfl (JoinP.inl (gd_f (decide_eq_false (by omega)) ?_))))
  intro _
  refine gd_f (by decide) (nonNil_some (s.ldm (x := some r) a 0 R.cell rfl ⟨_, _, hl, s.allocK fun a8 w1 s => s.st0 0 rfl rfl rfl fun w2 s => ?_⟩))
  refine ⟨fun _ w => Sp w0 Ω w, ?_, ?_⟩
  · refine JoinP.inl (gd_t rfl ?_)
    intro _
    exact gd_f rfl (gd_t rfl s.pop)
  · rintro _ w3 s _
    exact refs_set_spec R s fun w4 s => h _ s
theorem refs_Get_spec {x : ByteArray} {v : TG} (R : Rt Ω a b t r m) (s : Sp w0 Ω w) (hx : NameOK x) (hv : atS? m x = some v) {K : Int × Bool × Value → World → Prop} (h : ∀ w', Sp w0 Ω w' → K (v.1, v.2, .nilIface) w') : C_refs_Table_Get (some ⟨t, 0, none⟩) x K w := by
  apply S_refs_Table_Get
  unfold F_refs_Table_Get
  have hl := R.get s x
  rw [hv] at hl
  refine gd_f rfl (refs_Valid_spec hx (gd_f rfl (nonNil_some (s.ldm (x := some r) a 0 R.cell rfl ⟨_, _, hl, s.allocK fun a6 w1 s => s.st0 0 rfl rfl rfl fun w2 s => gd_f rfl (s.drawK fun w3 s => s.ldi (x := v.1) 0 0 rfl rfl (s.ldb (x := v.2) 0 1 rfl rfl (h _ s.pop)))⟩))))
theorem refs_Drop_spec {x : ByteArray} {v : TG} (R : Rt Ω a b t r m) (s : Sp w0 Ω w) (hx : NameOK x) (hv : atS? m x = some v) {K : Value → World → Prop} (h : ∀ w', Sp w0 (Ω.set b (ms yrefs_target r (mdelS m x))) w' → K .nilIface w') : C_refs_Table_Drop (some ⟨t, 0, none⟩) x K w := by
  apply S_refs_Table_Drop
  unfold F_refs_Table_Drop
  refine refs_Get_spec R s hx hv fun w1 s => nilIfc_nil (gd_f rfl (nonNil_some (s.ldm (x := some r) a 0 R.cell rfl ?_)))
  exact s.delS (vt := yrefs_target) v b R.map (d := 1) (by decide) mapST eqSt x fun w2 s => h _ s
theorem refs_Tag_spec {x : ByteArray} {n : Int} (R : Rt Ω a b t r m) (s : Sp w0 Ω w) (hx : NameOK x) (hn : 0 ≤ n) (hno : atS? m x = none) {K : Value → World → Prop} (h : ∀ w', Sp w0 (Ω.set b (ms yrefs_target r (mupdS m x (n, true)))) w' → K .nilIface w') : C_refs_Table_Tag (some ⟨t, 0, none⟩) x n K w := by
  apply S_refs_Table_Tag
  unfold F_refs_Table_Tag
  have hl := R.get s x
  rw [hno] at hl
  refine gd_f rfl (refs_Valid_spec hx (gd_f rfl (gd_f (decide_eq_false (by omega)) (nonNil_some (s.ldm (x := some r) a 0 R.cell rfl ⟨_, _, hl, s.allocK fun a6 w1 s => s.st0 0 rfl rfl rfl fun w2 s => gd_f rfl (refs_set_spec R s.pop fun w3 s => h _ s)⟩)))))

/-! ### Targets -/
theorem injS {α β : Type} {f : α → β} : ∀ {L : List α}, (L.map f).Nodup → ∀ {x y : α}, x ∈ L → y ∈ L → f x = f y → x = y
  | [], _, _, _, h, _, _ => by cases h
  | z :: L, hn, x, y, hx, hy, e => by
    rw [List.map_cons, List.nodup_cons] at hn
    rcases List.mem_cons.1 hx with h1 | h1 <;> rcases List.mem_cons.1 hy with h2 | h2
    · rw [h1, h2]
    · exact absurd (List.mem_map.2 ⟨y, h2, by rw [← e, h1]⟩) hn.1
    · exact absurd (List.mem_map.2 ⟨x, h1, by rw [e, h2]⟩) hn.1
    · exact injS hn.2 h1 h2 e
theorem lenS {α : Type} [DecidableEq α] : ∀ {L M : List α}, L.Nodup → (∀ x ∈ L, x ∈ M) → L.length ≤ M.length
  | [], _, _, _ => Nat.zero_le _
  | x :: L, M, hn, h => by
    rw [List.nodup_cons] at hn
    have hx := h x (by simp)
    have := lenS (L := L) (M := M.erase x) hn.2 fun y hy => by
      have hne : y ≠ x := fun e => hn.1 (e ▸ hy)
      exact (List.mem_erase_of_ne hne).2 (h y (List.mem_cons_of_mem _ hy))
    rw [List.length_erase_of_mem hx] at this
    have := List.length_pos_of_mem hx
    simp only [List.length_cons]; omega
theorem refs_Targets_spec (R : Rt Ω a b t r m) (s : Sp w0 Ω w) (hN : m.length ≤ 2000000) {K : Sl → World → Prop}
    (h : ∀ sl (ys : List (Ty.int .i64).T) w', (∀ z : Int, z ∈ ys ↔ ∃ p ∈ m, p.2.1 = z) → ys.length ≤ m.length → Sp w0 (vw (.int .i64) sl ys :: Ω) w' → K sl w') : C_refs_Table_Targets (some ⟨t, 0, none⟩) K w := by
  apply S_refs_Table_Targets
  unfold F_refs_Table_Targets
  refine gd_f rfl (nonNil_some (s.ldm (x := some r) a 0 R.cell rfl ?_))
  obtain ⟨arr, clock, tt, s⟩ := Sp.tellS s b R.map
  have hmx : (Ω.set b (mx r arr clock))[b]? = some (mx r arr clock) := setGet R.map
  have hback : (Ω.set b (mx r arr clock)).set b (ms yrefs_target r m) = Ω := by rw [List.set_set, setSame R.map]
  refine s.rangeC b hmx mapST fun rr w3 s => ?_
  have hsz : arr.size = m.length := by
    have := congrArg List.length tt.eq
    simpa [PairS] using this
  have s : Sp w0 (own (.int .i64) ⟨none, 0, 0⟩ [] :: itr rr r clock #[] :: Ω.set b (mx r arr clock)) w3 := s.nil _
  refine ⟨fun x w => ∃ (sel : List MapEntry) (ps : List (ByteArray × TG)), (sel.map (·.born)).Nodup ∧ (∀ e ∈ sel, e ∈ arr.toList) ∧ sel.map (fun e => (e.key, e.val)) = PairS yrefs_target ps ∧ (∀ p ∈ ps, p ∈ m) ∧ Sp w0 (own (.int .i64) x.1 (ps.map fun p => p.2.1) :: itr rr r clock (sel.map (·.born)).toArray :: Ω.set b (mx r arr clock)) w, fun x _ => m.length - x.1.len, ⟨[], [], List.nodup_nil, by simp, rfl, by simp, s⟩, ?_⟩
  clear s
  rintro ⟨sl, _⟩ w4 ⟨sel, ps, hsb, hsa, hsk, hpm, s⟩ _
  dsimp only at s ⊢
  have hsl := (s.view 0 rfl).len
  rw [List.length_map] at hsl
  have hkl : sel.length = ps.length := by simpa [PairS] using congrArg List.length hsk
  have hle0 := lenS (L := sel.map (·.born)) (M := arr.toList.map (·.born)) hsb fun x hx => by
    obtain ⟨e, he, rfl⟩ := List.mem_map.1 hx
    exact List.mem_map.2 ⟨e, hsa e he, rfl⟩
  simp only [List.length_map, Array.length_toList] at hle0
  refine Sp.roundS tt s 1 (b + 2) rfl hmx (fun hall => ?_) (fun e k v w5 he hen hek hev hkv s => ?_)
  · refine slices_SortI_sp s 0 rfl (by rw [List.length_map]; omega) fun w6 s => ?_
    have s2 : Sp w0 (own (.int .i64) sl (srt (ps.map fun p => p.2.1)) :: itr rr r clock (sel.map (·.born)).toArray :: Ω.set b (mx r arr clock)) w6 := s
    have s3 := Sp.untellS tt (s2.era 1) (b + 1) hmx
    have s4 : Sp w0 (own (.int .i64) sl (srt (ps.map fun p => p.2.1)) :: (Ω.set b (mx r arr clock)).set b (ms yrefs_target r m)) w6 := s3
    rw [hback] at s4
    refine slices_Compact_spec s4 0 rfl (by rw [srt_len, List.length_map]; omega) fun s' ys w7 hys hyl s => ?_
    refine h s' ys w7 (fun z => ?_) (by rw [srt_len, List.length_map] at hyl; omega) s
    rw [hys, (srt_perm _).mem_iff, List.mem_map]
    constructor
    · rintro ⟨p, hp, e⟩
      exact ⟨p, hpm p hp, e⟩
    · rintro ⟨p, hp, e⟩
      have h1 : (Value.string p.1, val yrefs_target p.2) ∈ PairS yrefs_target m := List.mem_map.2 ⟨p, hp, rfl⟩
      rw [← tt.eq] at h1
      obtain ⟨en, hen, hee⟩ := List.mem_map.1 h1
      have hb := hall en hen
      rw [List.toList_toArray] at hb
      obtain ⟨e', he', hb'⟩ := List.mem_map.1 hb
      have e1 : e' = en := injS tt.born (hsa e' he') hen hb'
      subst e1
      have h2 : (e'.key, e'.val) ∈ PairS yrefs_target ps := by rw [← hsk]; exact List.mem_map.2 ⟨e', he', rfl⟩
      obtain ⟨p', hp', hpp⟩ := List.mem_map.1 h2
      rw [hee] at hpp
      have hkey : p'.1 = p.1 := by
        have := congrArg Prod.fst hpp
        simpa using this
      have : p' = p := injS tt.keys (hpm p' hp') hp hkey
      subst this
      exact ⟨p', hp', e⟩
  · have hsb' : ((sel ++ [e]).map (·.born)).Nodup := by
      rw [List.map_append, List.nodup_append]
      refine ⟨hsb, by simp, fun x hx y hy => ?_⟩
      simp at hy
      subst hy
      exact fun e' => hen (by rw [List.toList_toArray]; exact e' ▸ hx)
    have hle := lenS (L := (sel ++ [e]).map (·.born)) (M := arr.toList.map (·.born)) hsb' fun x hx => by
      obtain ⟨e', he', rfl⟩ := List.mem_map.1 hx
      rcases List.mem_append.1 he' with h | h
      · exact List.mem_map.2 ⟨e', hsa e' h, rfl⟩
      · simp at h; subst h; exact List.mem_map.2 ⟨e', he, rfl⟩
    simp only [List.length_map, List.length_append, List.length_cons, List.length_nil, Array.length_toList] at hle
    refine s.allocK fun a10 w6 s => s.st0 0 rfl rfl rfl fun w7 s => s.ldi (x := v.1) 0 0 rfl rfl (s.allocK fun a12 w8 s => s.app 2 rfl ((s.lit (ty := .int .i64) 0 rfl [v.1] 1 rfl rfl).view 0 rfl) (by simp only [List.length_cons, List.length_nil, List.length_map]; omega) fun s13 w9 s => ?_)
    have s2 := s.drop 2
    have hl2 := (s2.view 0 rfl).len
    simp only [List.length_append, List.length_cons, List.length_nil, List.length_map] at hl2
    refine ⟨⟨sel ++ [e], ps ++ [(k, v)], hsb', fun e' he' => ?_, ?_, fun p hp => ?_, ?_⟩, ?_⟩
    · rcases List.mem_append.1 he' with h | h
      · exact hsa e' h
      · simp at h; subst h; exact he
    · rw [List.map_append, hsk]; simp [PairS, hek, hev]
    · rcases List.mem_append.1 hp with h | h
      · exact hpm p h
      · simp at h; subst h; exact hkv
    · have e2 : ((sel ++ [e]).map (·.born)).toArray = (sel.map (·.born)).toArray.push e.born := by simp
      rw [e2, List.map_append]
      exact s2
    · omega

end Go.Proofs.YtnmgjpcooncjlaaGreat

/- A store's list after a rule was added; the errors of the calls. -/
set_option linter.unusedVariables false
set_option linter.unusedSimpArgs false
namespace Go.Proofs.YtnmgjpcooncjlaaGreat
open Go.Den

variable {w0 : World}

theorem lkR_none {L : List ET} {r : RT} (h : ∀ e ∈ L, e.1 ≠ r) : lkR L r = none := by
  unfold lkR lk
  have : (idx L).find? (fun p => beqT yapi_Rule r p.1) = none := by
    rw [List.find?_eq_none]
    intro x hx hb
    have hr := (beqT_iff yapi_Rule rfl _ _).1 hb
    unfold idx at hx
    obtain ⟨q, hq, rfl⟩ := List.mem_map.1 hx
    obtain ⟨a, i⟩ := q
    obtain ⟨-, -, ha⟩ := List.mem_zipIdx hq
    exact h a (by rw [ha]; exact List.getElem_mem _) hr.symm
  rw [this]; rfl
theorem eAt_append {L : List ET} {e : ET} {id : Int} (hpos : 0 ≤ id) (h : id ≤ L.length) : eAt (L ++ [e]) id = eAt L id := by
  unfold eAt
  by_cases h0 : id = 0
  · rw [if_pos h0, if_pos h0]
  · rw [if_neg h0, if_neg h0, List.getD_eq_getElem?_getD, List.getD_eq_getElem?_getD, List.getElem?_append_left (by omega)]
theorem known_append {L : List ET} {e : ET} {id : Int} (h : known L id = true) : known (L ++ [e]) id = true := by
  unfold known at h ⊢
  simp only [decide_eq_true_eq, List.length_append, List.length_cons, List.length_nil] at h ⊢
  omega
theorem lkR_append_some {L : List ET} {e : ET} {r : RT} {i : Int} (h : lkR L r = some i) : lkR (L ++ [e]) r = some i := by
  unfold lkR lk at h ⊢
  rw [idx_append, List.find?_append]
  cases hf : (idx L).find? (fun p => beqT yapi_Rule r p.1) with
  | none => rw [hf] at h; cases h
  | some p => rw [hf] at h; exact h
theorem lkR_append_none {L : List ET} {e : ET} {r : RT} (h : lkR L r = none) : lkR (L ++ [e]) r = if e.1 = r then some ((L.length : Int) + 1) else none := by
  unfold lkR lk at h ⊢
  rw [idx_append, List.find?_append]
  cases hf : (idx L).find? (fun p => beqT yapi_Rule r p.1) with
  | some p => rw [hf] at h; cases h
  | none =>
    simp only [Option.none_or]
    by_cases hr : e.1 = r
    · have : beqT yapi_Rule r e.1 = true := (beqT_iff yapi_Rule rfl _ _).2 hr.symm
      rw [if_pos hr]
      simp [this]
    · have : beqT yapi_Rule r e.1 = false := by
        cases hb : beqT yapi_Rule r e.1
        · rfl
        · exact absurd ((beqT_iff yapi_Rule rfl _ _).1 hb).symm hr
      rw [if_neg hr]
      simp [this]

/-- what a call answers as an error -/
def IsErr (v : Value) : Prop := v = .nilIface ∨ ∃ n, n ≠ 0 ∧ v = errV n
def codeOf (v : Value) : Int := match v with
  | .iface _ (.int _ n) => n
  | _ => 0
theorem base_Num_spec {v : Value} (hv : IsErr v) {K : Int → World → Prop} (h : K (codeOf v) w0) : C_base_Num v K w0 := by
  rcases hv with rfl | ⟨n, _, rfl⟩
  · exact base_Num_nil h
  · exact base_Num_err h
theorem pAdd_err {L : List ET} {most : Int} {e : ET} : IsErr (pAdd L most e).2.2 := by
  unfold pAdd
  split
  · exact Or.inl rfl
  · split
    · exact Or.inr ⟨_, by decide, rfl⟩
    · exact Or.inl rfl

theorem pLetter_err {L : List ET} {most b : Int} : IsErr (pLetter L most b).2.2 := pAdd_err
theorem pPair_err {L : List ET} {most l r : Int} : IsErr (pPair L most l r).2.2 := by
  unfold pPair
  split
  · exact Or.inr ⟨_, by decide, rfl⟩
  split
  · exact Or.inl rfl
  split
  · exact Or.inl rfl
  split
  · exact Or.inr ⟨_, by decide, rfl⟩
  · exact pAdd_err
theorem pPower_err {L : List ET} {most x k : Int} : IsErr (pPower L most x k).2.2 := by
  unfold pPower
  split
  · exact Or.inr ⟨_, by decide, rfl⟩
  split
  · exact Or.inl rfl
  split
  · exact Or.inl rfl
  split
  · exact Or.inr ⟨_, by decide, rfl⟩
  · exact pAdd_err
theorem isNilI_err {v : Value} (h : IsErr v) : (isNilI v = true ∧ codeOf v = 0 ∧ v = .nilIface) ∨ (isNilI v = false ∧ codeOf v ≠ 0 ∧ ∃ n, v = errV n) := by
  rcases h with rfl | ⟨n, hn, rfl⟩
  · exact Or.inl ⟨rfl, rfl, rfl⟩
  · exact Or.inr ⟨rfl, hn, n, rfl⟩
theorem codeOf_err (n : Int) : codeOf (errV n) = n := rfl
theorem codeOf_nil : codeOf .nilIface = 0 := rfl

theorem wLetter_len (b : Int) : (wLetter b).1 = 1 := by unfold wLetter; split <;> rfl
theorem wRep_len (a : WT) (k : Int) : (wRep a k).1 = a.1 * k := by
  unfold wRep
  split
  · rename_i h; rw [h]; rfl
  · rfl


theorem eAt_last (L : List ET) (e : ET) : eAt (L ++ [e]) ((L.length : Int) + 1) = e := by
  have h := eAt_get (L := L ++ [e]) (id := (L.length : Int) + 1) (by omega) (by simp)
  have e1 : ((L.length : Int) + 1 - 1).toNat = L.length := by omega
  rw [e1] at h
  simp at h
  exact h.symm
theorem known_last (L : List ET) (e : ET) : known (L ++ [e]) ((L.length : Int) + 1) = true := by
  unfold known
  simp only [List.length_append, List.length_cons, List.length_nil, decide_eq_true_eq]
  omega


end Go.Proofs.YtnmgjpcooncjlaaGreat
