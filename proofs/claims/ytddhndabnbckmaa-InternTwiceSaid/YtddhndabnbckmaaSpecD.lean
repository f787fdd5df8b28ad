/- The calls that change a store of the package intern, from their texts. -/
import Derived.Test.YtddhndabnbckmaaSpecC
namespace Go.Proofs.Ytddhndabnbckmaa
open Go.Den

variable {w0 : World} {B : Nat → Prop} {p : Addr} {most : Int} {L : List ET}

theorem intern_add_spec {e : ET} (st : Sto B w0 p most L) (hn : lkR L e.1 = none) (hl : (L.length : Int) < most) (hg : Grow (L ++ [e])) {K : Int → World → Prop}
    (h : ∀ w' B', Step B B' w0 w' → Sto B' w' p most (L ++ [e]) → K ((L.length : Int) + 1) w') : C_intern_Store_add (some p) e K w0 := by
  apply S_intern_Store_add
  unfold F_intern_Store_add
  have hmb := st.most0
  obtain ⟨sl, m, h1, h2, h3, h4, n1, n2, n3, b1, b2, b3⟩ := st.mem
  refine (St.start w0 st.lt).allocK fun a1 w1 s e1 _ => s.drawK fun w2 s e2 _ => nonNil_some ⟨sl, ((h1.ext e1).ext e2).sub 1 rfl, s.ld0 0 rfl rfl (s.allocK fun a5 w3 s e3 _ => ⟨(((h1.ext e1).ext e2).ext e3).sub 1 rfl, ?_⟩)⟩
  have e03 : Ext w0 w3 := (e1.trans e2).trans e3
  have hv : View yintern_entry w3 ⟨some ⟨a5, 0, none⟩, 1, 1⟩ [e] := ⟨rfl, fun q hq => by
    cases hq
    have := s.at_ (i := 0) rfl
    have he : flat yintern_entry [e] = cells yintern_entry e := by simp [flat]
    rw [he]; exact this, fun _ => ⟨_, rfl⟩⟩
  refine (h4.ext e03).app hv 1 rfl rfl rfl rfl (by decide) ?_ fun s6 w4 o6 f4 hnew => ?_
  · simp only [List.length_cons, List.length_nil]; omega
  have hsub : ∀ b, blk s6 b → B b ∨ blk s6 b := fun b hb => Or.inr hb
  let B' : Nat → Prop := fun b => B b ∨ blk s6 b
  have k4 : Step B B' w3 w4 := ⟨f4.mono fun b _ hb => b3 b hb, fun b hb => by
    rcases hb with hb | hb
    · exact Or.inl hb
    · rcases hnew b hb with hb | hb
      · exact Or.inl (b3 b hb)
      · exact Or.inr (by omega), fun b hb => Or.inl hb⟩
  have hlt : ∀ b, B' b → b < w4.heap.size := fun b hb => by
    rcases hb with hb | hb
    · exact Nat.lt_of_lt_of_le (Nat.lt_of_lt_of_le (st.lt b hb) e03.size) f4.size
    · exact o6.lt b hb
  have s4 := s.stp k4 hlt
  have h1' := (h1.ext e03).fr f4 n2
  have h2' := (h2.ext e03).fr f4 n2
  have h3' := (h3.ext e03).fr f4 n3
  have p6 : ¬ blk s6 p.block := fun hb => by
    rcases hnew _ hb with hb | hb
    · exact n2 hb
    · have := st.lt _ b1; have := e03.size; omega
  have m6 : ¬ blk s6 m := fun hb => by
    rcases hnew _ hb with hb | hb
    · exact n3 hb
    · have := st.lt _ b2; have := e03.size; omega
  refine nonNil_some (show stK w4 (p.add 1) [.slice s6.a s6.len s6.cap] _ from ⟨h2'.sub 1 1 (by decide), rfl, ?_⟩)
  have f5 := setCells_fr w4 (p.add 1) 0 [.slice s6.a s6.len s6.cap]
  rw [add_block] at f5
  have hat5 := h1'.splice (off := 1) (ds := [.slice s6.a s6.len s6.cap]) (h2'.sub 1 1 (by decide)) (Nat.le_succ 2)
  have hwr5 := h2'.set (a := p.add 1) (cs := [.slice s6.a s6.len s6.cap]) (h2'.sub 1 1 (by decide))
  generalize hw5 : setCells w4 (p.add 1) 0 [.slice s6.a s6.len s6.cap] = w5 at f5 hat5 hwr5 ⊢
  have k5 : Step B' B' w4 w5 := ⟨f5.mono fun b _ hb => Or.inl (by rw [hb]; exact b1), fun b hb => Or.inl hb, fun b hb => hb⟩
  have s5 := s4.stp k5 (fun b hb => Nat.lt_of_lt_of_le (hlt b hb) f5.size)
  refine nonNil_some ⟨s6, hat5.sub 1 rfl, s5.drawK fun w6 s6' e6 _ => nonNil_some ⟨some m, (hat5.ext e6).sub 2 rfl, s6'.ld (ty := yapi_Rule) (x := e.1) 1 0 rfl rfl ?_⟩⟩
  have o5 := o6.fr f5 (fun b hb e => p6 (by rw [← e]; exact hb))
  have m5 := (h3'.fr f5 (fun e => n1 e.symm)).ext e6
  have hlen := o6.view.len
  simp only [List.length_append, List.length_cons, List.length_nil] at hlen
  refine up_run (kt := yapi_Rule) (vt := .int .i64) (by decide) mapRule eqRule (by simp) m5 e.1 (s6.len : Int) hn fun w7 f7 m7 => ?_
  have hl6 : (s6.len : Int) = (L.length : Int) + 1 := by omega
  rw [hl6] at m7 ⊢
  rw [← idx_append] at m7
  refine h w7 B' ?_ ⟨hg, hmb, ?_, ⟨s6, m, ((hat5.ext e6).fr f7 (fun e => n1 e)), ((hwr5.ext e6).fr f7 (fun e => n1 e)), m7, (o5.ext e6).fr f7 (fun b hb e => m6 (by rw [← e]; exact hb)), n1, p6, m6, Or.inl b1, Or.inl b2, fun b hb => Or.inr hb⟩, ?_⟩
  · have k7 : Step B' B' w6 w7 := ⟨f7.mono fun b _ hb => Or.inl (by rw [hb]; exact b2), fun b hb => Or.inl hb, fun b hb => hb⟩
    exact ((k4.pre e03).trans k5).trans ((Step.ofExt e6).trans k7)
  · simp only [List.length_append, List.length_cons, List.length_nil]; omega
  · intro b hb
    exact Nat.lt_of_lt_of_le (Nat.lt_of_lt_of_le (Nat.lt_of_lt_of_le (hlt b hb) f5.size) e6.size) f7.size

/-- the end of Letter, Pair and Power: what was found, or the new entry -/
theorem pAdd_some {e : ET} {i : Int} (h : lkR L e.1 = some i) : pFind L most e.1 = (i, .nilIface) ∧ pAdd L most e = (L, (i, .nilIface)) ∧ i ≠ 0 := by
  have := (lkR_pos h).1
  unfold pFind pAdd
  rw [h]
  exact ⟨rfl, rfl, by omega⟩
theorem pAdd_full {e : ET} (h : lkR L e.1 = none) (hm : most ≤ L.length) : pFind L most e.1 = (0, errV 3) ∧ pAdd L most e = (L, (0, errV 3)) := by
  unfold pFind pAdd
  rw [h]
  simp only [if_pos hm, and_self]
theorem pAdd_new {e : ET} (h : lkR L e.1 = none) (hm : ¬ most ≤ L.length) : pFind L most e.1 = (0, .nilIface) ∧ pAdd L most e = (L ++ [e], ((L.length : Int) + 1, .nilIface)) := by
  unfold pFind pAdd
  rw [h]
  simp only [if_neg hm, and_self]

theorem intern_Letter_nil {b : Int} {K : Int × Value → World → Prop} (h : K (0, errV 5) w0) : C_intern_Store_Letter none b K w0 := by
  apply S_intern_Store_Letter
  unfold F_intern_Store_Letter
  exact gd_t rfl h
theorem intern_Letter_spec {b : Int} (st : Sto B w0 p most L) (hb : 0 ≤ b ∧ b < 256) {K : Int × Value → World → Prop}
    (h : ∀ w' B', Step B B' w0 w' → Sto B' w' p most (pLetter L most b).1 → K (pLetter L most b).2 w') : C_intern_Store_Letter (some p) b K w0 := by
  apply S_intern_Store_Letter
  unfold F_intern_Store_Letter
  refine gd_f rfl ((St.init w0).allocK fun b1 w1 s e1 _ => s.st0 0 rfl rfl rfl fun w2 s _ => s.ld0 (x := (_, _, _, _, _)) 0 rfl rfl (intern_find_spec (st.ext s.fr) fun w3 e3 => ?_))
  have s3 := s.ext e3
  have hE : (mkLetter b).1 = (1, b, 0, 0, 0) := rfl
  unfold pLetter at h
  cases hl : lkR L (mkLetter b).1 with
  | some i =>
    obtain ⟨q1, q2, q3⟩ := pAdd_some (most := most) hl
    rw [q2] at h
    rw [hE] at q1
    rw [q1]
    refine ⟨fun x w => x.1 = true ∧ w = w3, gd_t (by simpa using q3) ⟨rfl, rfl⟩, ?_⟩
    rintro x w ⟨hx, rfl⟩ _
    exact gd_t hx (h _ B (.ofExt s3.fr) (st.ext s3.fr))
  | none =>
    by_cases hm : most ≤ L.length
    · obtain ⟨q1, q2⟩ := pAdd_full (most := most) hl hm
      rw [q2] at h
      rw [hE] at q1
      rw [q1]
      refine ⟨fun x w => x.1 = true ∧ w = w3, gd_f rfl (nilIfc_err ⟨rfl, rfl⟩), ?_⟩
      rintro x w ⟨hx, rfl⟩ _
      exact gd_t hx (h _ B (.ofExt s3.fr) (st.ext s3.fr))
    · obtain ⟨q1, q2⟩ := pAdd_new (most := most) hl hm
      rw [q2] at h
      rw [hE] at q1
      rw [q1]
      refine ⟨fun x w => x.1 = false ∧ w = w3, gd_f rfl (nilIfc_nil ⟨rfl, rfl⟩), ?_⟩
      rintro x w ⟨hx, rfl⟩ _
      refine gd_f hx (s3.drawK fun w5 s5 _ _ => s5.ld0 (ty := yapi_Rule) (x := (1, b, 0, 0, 0)) 0 rfl rfl (weight_Letter_spec hb fun w6 e6 => ⟨(s5.ext e6).at_ (i := 0) rfl, ?_⟩))
      have s6 := s5.ext e6
      exact intern_add_spec (e := mkLetter b) (st.ext s6.fr) hl (by omega) (.letter st.grow hb.1 hb.2) fun w' B' k st' => h _ B' (.pre s6.fr k) st'

theorem intern_Len_nil {K : Int → World → Prop} (h : K 0 w0) : C_intern_Store_Len none K w0 := by
  apply S_intern_Store_Len
  unfold F_intern_Store_Len
  exact gd_t rfl h
theorem intern_Len_spec (st : Sto B w0 p most L) {K : Int → World → Prop} (h : K L.length w0) : C_intern_Store_Len (some p) K w0 := by
  apply S_intern_Store_Len
  unfold F_intern_Store_Len
  obtain ⟨sl, m, h1, _, _, h4, _⟩ := st.mem
  have e := h4.view.len
  refine gd_f rfl (nonNil_some ⟨sl, h1.sub 1 rfl, ?_⟩)
  rw [e]; exact h
theorem intern_Room_nil {K : Int → World → Prop} (h : K 0 w0) : C_intern_Store_Room none K w0 := by
  apply S_intern_Store_Room
  unfold F_intern_Store_Room
  exact gd_t rfl h
theorem intern_Room_spec (st : Sto B w0 p most L) {K : Int → World → Prop} (h : ∀ w', Ext w0 w' → K (most - L.length) w') : C_intern_Store_Room (some p) K w0 := by
  apply S_intern_Store_Room
  unfold F_intern_Store_Room
  obtain ⟨sl, m, h1, _, _, h4, _⟩ := st.mem
  have e := h4.view.len
  have hm := st.most0
  have hl := st.len
  refine gd_f rfl ((St.init w0).drawK fun w1 s _ _ => nonNil_some ⟨most, (h1.ext s.fr).sub 0 rfl, nonNil_some ⟨sl, (h1.ext s.fr).sub 1 rfl, ?_⟩⟩)
  rw [e]
  exact arith_i64 (by omega) (by omega) (h _ s.fr)

end Go.Proofs.Ytddhndabnbckmaa
