/- Texts that belong together, joined: CurA, CurB. No conditions. -/
import Derived.Test.YtcmncfglcjcmhaaGreatGT
/- cursor and lines: a cursor as a block of cells; New, Seek, Skip, Offset, Left, Line, Copy, Read, Position. -/
set_option linter.unusedVariables false
set_option linter.unusedSimpArgs false
namespace Go.Proofs.YtcmncfglcjcmhaaGreat
open Go.Den

variable {w0 w : World} {Ω : List Ob} {most : Int} {T : List ET} {p : Addr}

abbrev curC (p : Addr) (id n a : Int) : List Value := [.pointer (some p), .int .i64 id, .int .i64 n, .int .i64 a]

theorem cursor_New_sp {id : Int} (s : Sp w0 Ω w) (i : Nat) (hi : Ω[i]? = some (sto p most T)) (hk : 0 ≤ id ∧ id ≤ T.length) {K : Option Addr × Value → World → Prop}
    (h : ∀ c w', Sp w0 (cel c (curC p id (eAt T id).2.1.1 0) :: Ω) w' → K (some ⟨c, 0, none⟩, .nilIface) w') : C_cursor_New (some p) id K w := by
  apply S_cursor_New
  unfold F_cursor_New
  exact intern_Weight_k s i hi hk fun w1 s => s.allocK fun a2 w2 s => s.st0 0 rfl rfl rfl fun w3 s => nilIfc_nil (gd_f rfl (s.ldi (x := (eAt T id).2.1.1) 0 0 rfl rfl (Sp.allocK (cs := curC p id (eAt T id).2.1.1 0) s fun c w4 s => h c w4 (s.era 1))))
theorem cursor_Offset_sp {id n a : Int} {c : Nat} (s : Sp w0 Ω w) (i : Nat) (hi : Ω[i]? = some (cel c (curC p id n a))) {K : Int → World → Prop} (h : K a w) : C_cursor_Cursor_Offset (some ⟨c, 0, none⟩) K w := by
  apply S_cursor_Cursor_Offset
  unfold F_cursor_Cursor_Offset
  exact gd_f rfl (nonNil_some (s.ldi (x := a) i 3 hi rfl h))
theorem cursor_Left_sp {id n a : Int} {c : Nat} (s : Sp w0 Ω w) (i : Nat) (hi : Ω[i]? = some (cel c (curC p id n a))) (h0 : 0 ≤ a) (h1 : a ≤ n) (hn : n ≤ 1152921504606846976) {K : Int → World → Prop} (h : ∀ w', Sp w0 Ω w' → K (n - a) w') : C_cursor_Cursor_Left (some ⟨c, 0, none⟩) K w := by
  apply S_cursor_Cursor_Left
  unfold F_cursor_Cursor_Left
  exact gd_f rfl (s.drawK fun w1 s => nonNil_some (s.ldi (x := n) i 2 hi rfl (nonNil_some (s.ldi (x := a) i 3 hi rfl (arith_i64 (by omega) (by omega) (h _ s))))))
theorem cursor_Seek_sp {id n a b : Int} {c : Nat} (s : Sp w0 Ω w) (i : Nat) (hi : Ω[i]? = some (cel c (curC p id n a))) (h0 : 0 ≤ b) (h1 : b ≤ n) {K : Value → World → Prop} (h : ∀ w', Sp w0 (Ω.set i (cel c (curC p id n b))) w' → K .nilIface w') : C_cursor_Cursor_Seek (some ⟨c, 0, none⟩) b K w := by
  apply S_cursor_Cursor_Seek
  unfold F_cursor_Cursor_Seek
  refine gd_f rfl (JoinP.inl (gd_f (decide_eq_false (by omega)) (nonNil_some (s.ldi (x := n) i 2 hi rfl ?_))))
  intro _
  exact gd_f (decide_eq_false (by omega)) (nonNil_some (s.st i 3 hi rfl rfl fun w1 s => h _ s))
theorem cursor_Skip_sp {id n a b : Int} {c : Nat} (s : Sp w0 Ω w) (i : Nat) (hi : Ω[i]? = some (cel c (curC p id n a))) (ha0 : 0 ≤ a) (ha1 : a ≤ n) (hn : n ≤ 1152921504606846976) (h0 : 0 ≤ a + b) (h1 : a + b ≤ n) {K : Int → World → Prop} (h : ∀ w', Sp w0 (Ω.set i (cel c (curC p id n (a + b)))) w' → K b w') : C_cursor_Cursor_Skip (some ⟨c, 0, none⟩) b K w := by
  apply S_cursor_Cursor_Skip
  unfold F_cursor_Cursor_Skip
  refine gd_f rfl (s.drawK fun w1 s => nonNil_some (s.ldi (x := a) i 3 hi rfl (arith_i64 (by omega) (by omega) (nonNil_some (s.ldi (x := n) i 2 hi rfl (nonNil_some (s.ldi (x := a) i 3 hi rfl (arith_i64 (by omega) (by omega) (length_Clip_spec ?_)))))))))
  rw [if_neg (by omega), if_neg (by omega)]
  exact nonNil_some (s.ldi (x := a) i 3 hi rfl (arith_i64 (by omega) (by omega) (nonNil_some (s.st i 3 hi rfl rfl fun w1 s => h _ s))))
theorem cursor_Copy_sp {id n a : Int} {c : Nat} (s : Sp w0 Ω w) (i : Nat) (hi : Ω[i]? = some (cel c (curC p id n a))) {K : Option Addr → World → Prop} (h : ∀ d w', Sp w0 (cel d (curC p id n a) :: Ω) w' → K (some ⟨d, 0, none⟩) w') : C_cursor_Cursor_Copy (some ⟨c, 0, none⟩) K w := by
  apply S_cursor_Cursor_Copy
  unfold F_cursor_Cursor_Copy
  exact gd_f rfl (nonNil_some (s.ld0 (ty := ycursor_Cursor) (x := (some p, id, n, a)) i hi rfl (s.allocK fun d w1 s => s.st0 0 rfl rfl rfl fun w2 s => h d w2 s)))
theorem cursor_Line_sp {id n a : Int} {c : Nat} (s : Sp w0 Ω w) (i j : Nat) (hi : Ω[i]? = some (cel c (curC p id n a))) (hj : Ω[j]? = some (sto p most T)) (hk : 0 ≤ id ∧ id ≤ T.length) (h0 : 0 ≤ a) (h1 : a ≤ (txt T id).length) {K : Int × Int → World → Prop}
    (h : ∀ w', Sp w0 Ω w' → K ((wOf ((txt T id).take a.toNat)).2.1, (wOf ((txt T id).take a.toNat)).2.2.2.1) w') : C_cursor_Cursor_Line (some ⟨c, 0, none⟩) K w := by
  apply S_cursor_Cursor_Line
  unfold F_cursor_Cursor_Line
  have e : sub (txt T id) (0 : Int).toNat a.toNat = (txt T id).take a.toNat := by unfold sub; rfl
  refine gd_f rfl ⟨fun x w => ∃ b, x.1 = ⟨b, 0, none⟩ ∧ x.2.1 = .nilIface ∧ Sp w0 (cel b (cells yapi_Weight (wOf ((txt T id).take a.toNat))) :: Ω) w, s.drawK fun w1 s => nonNil_some (s.ldp (x := some p) i 0 hi rfl (nonNil_some (s.ldi (x := id) i 1 hi rfl (nonNil_some (s.ldi (x := a) i 3 hi rfl ⟨?_, ?_⟩))))), ?_⟩
  · refine access_Weight_sp s j hj hk ⟨by omega, h0, by omega⟩ fun w2 s => ?_
    rw [e]
    exact s.allocK fun b w3 s => s.st0 0 rfl rfl rfl fun w4 s => ⟨b, rfl, rfl, s⟩
  · refine s.allocK fun b w3 s => ⟨s.still (i + 1) 3 hi rfl, s.still (i + 1) 1 hi rfl, s.still (i + 1) 0 hi rfl, access_Weight_sp s (j + 1) hj hk ⟨by omega, h0, by omega⟩ fun w2 s => ?_⟩
    rw [e]
    exact s.st0 0 rfl rfl rfl fun w4 s => ⟨b, rfl, rfl, s⟩
  · clear s
    rintro ⟨_, _, _⟩ w2 ⟨b, rfl, rfl, s⟩ _
    exact nilIfc_nil (gd_f rfl (s.drawK fun w3 s => s.ldi (x := (wOf ((txt T id).take a.toNat)).2.1) 0 1 rfl rfl (s.ldi (x := (wOf ((txt T id).take a.toNat)).2.2.2.1) 0 3 rfl rfl (h _ s.pop))))
theorem lines_Position_sp {id a : Int} (s : Sp w0 Ω w) (j : Nat) (hj : Ω[j]? = some (sto p most T)) (hk : 0 ≤ id ∧ id ≤ T.length) (h0 : 0 ≤ a) (h1 : a ≤ (txt T id).length) {K : Int × Int × Value → World → Prop}
    (h : ∀ w', Sp w0 Ω w' → K ((wOf ((txt T id).take a.toNat)).2.1, (wOf ((txt T id).take a.toNat)).2.2.2.1, .nilIface) w') : C_lines_Position (some p) id a K w := by
  apply S_lines_Position
  unfold F_lines_Position
  have e : sub (txt T id) (0 : Int).toNat a.toNat = (txt T id).take a.toNat := by unfold sub; rfl
  refine access_Weight_sp s j hj hk ⟨by omega, h0, by omega⟩ fun w2 s => ?_
  rw [e]
  exact s.allocK fun b w3 s => s.st0 0 rfl rfl rfl fun w4 s => nilIfc_nil (gd_f rfl (s.drawK fun w3 s => s.ldi (x := (wOf ((txt T id).take a.toNat)).2.1) 0 1 rfl rfl (s.ldi (x := (wOf ((txt T id).take a.toNat)).2.2.2.1) 0 3 rfl rfl (h _ s.pop))))
theorem cursor_Read_sp {id n a m : Int} {c : Nat} (s : Sp w0 Ω w) (i j : Nat) (hi : Ω[i]? = some (cel c (curC p id n a))) (hj : Ω[j]? = some (sto p most T)) (hk : 0 ≤ id ∧ id ≤ T.length) (h0 : 0 ≤ a) (h1 : a ≤ n) (hn : n = (txt T id).length) (hm : 0 ≤ m ∧ m ≤ 65536) {K : Sl → World → Prop}
    (h : ∀ sl w', Sp w0 (own (.int .u8) sl (sub (txt T id) a.toNat (if n - a < m then n - a else m).toNat) :: Ω.set i (cel c (curC p id n (a + (if n - a < m then n - a else m))))) w' → K sl w') : C_cursor_Cursor_Read (some ⟨c, 0, none⟩) m K w := by
  apply S_cursor_Cursor_Read
  unfold F_cursor_Cursor_Read
  obtain ⟨_, _, _, hb0, hb1, hb2, g⟩ := Sp.entry s j hj
  have hlen := g.len hk.1 hk.2
  have hbig := (g.at_ hk.1 hk.2).1.len
  refine gd_f rfl (s.drawK fun w1 s => nonNil_some (s.ldi (x := n) i 2 hi rfl (nonNil_some (s.ldi (x := a) i 3 hi rfl (arith_i64 (by omega) (by omega) (length_Clip_spec ?_))))))
  rw [if_neg (show ¬ m < 0 by omega), if_neg (show ¬ (65536 : Int) < m by omega)]
  have hq : 0 ≤ (if n - a < m then n - a else m) ∧ a + (if n - a < m then n - a else m) ≤ n ∧ (if n - a < m then n - a else m) ≤ m := by split <;> omega
  generalize (if n - a < m then n - a else m) = q at *
  refine ⟨s.still i 3 hi rfl, s.still i 2 hi rfl, s.drawK fun w2 s => nonNil_some (s.ldp (x := some p) i 0 hi rfl (nonNil_some (s.ldi (x := id) i 1 hi rfl (nonNil_some (s.ldi (x := a) i 3 hi rfl (access_Extract_sp s j hj hk ⟨h0, by omega, by omega⟩ (by omega) fun es w3 s => nilIfc_nil (gd_f rfl (nonNil_some (s.ldi (x := a) (i + 1) 3 hi rfl (arith_i64 (by omega) (by omega) (nonNil_some (s.st (i + 1) 3 hi rfl rfl fun w4 s => h _ _ s)))))))))))) ⟩

end Go.Proofs.YtcmncfglcjcmhaaGreat

/- top: WholeCursors. -/
set_option linter.unusedVariables false
set_option linter.unusedSimpArgs false
namespace Go.Proofs.YtcmncfglcjcmhaaGreat
open Go.Den

variable {w0 w : World} {Ω : List Ob} {most : Int} {T : List ET} {p : Addr}

theorem lines_step {b : List Int} {n : Nat} {c : Int} (hg : b[n]? = some c) (hc : 0 ≤ c ∧ c < 256) : (wOf (b.take (n + 1))).2.1 = (wOf (b.take n)).2.1 + (if c = 10 then 1 else 0) ∧ (wOf (b.take (n + 1))).2.2.2.1 = (if c = 10 then 0 else 1 + (wOf (b.take n)).2.2.2.1) := by
  have et : b.take (n + 1) = b.take n ++ [c] := by
    rw [List.take_add_one, hg]; rfl
  rw [et, wOf_append, wOf_one hc]
  unfold wLetter
  by_cases c0 : c = 10
  · simp [wJoin, c0]
  · simp [wJoin, c0]
theorem tail_le {b : List Int} (hb : ∀ c ∈ b, 0 ≤ (c : Int) ∧ (c : Int) < 256) : ∀ n : Nat, n ≤ b.length → 0 ≤ (wOf (b.take n)).2.2.2.1 ∧ (wOf (b.take n)).2.2.2.1 ≤ n ∧ 0 ≤ (wOf (b.take n)).2.1 ∧ (wOf (b.take n)).2.1 ≤ n := by
  intro n
  induction n with
  | zero => intro _; exact ⟨Int.le_refl _, Int.le_refl _, Int.le_refl _, Int.le_refl _⟩
  | succ n ih =>
    intro hn
    have hg : b[n]? = some b[n] := List.getElem?_eq_getElem (by omega)
    have h := lines_step hg (hb _ (List.getElem_mem (by omega)))
    have := ih (by omega)
    rw [h.1, h.2]
    split <;> omega

theorem top_WholeCursors_spec {lsl msl : Sl} {list : List MkT} {moves : List (Ty.int .i64).T} (hv : View yevergreentop_Make w0 lsl list) (hm : View (.int .i64) w0 msl moves) (ho : ∀ o ∈ list, (mkText o).size ≤ 9223372036854775807) {K : Bool → World → Prop} (h : ∀ w', Ext w0 w' → K true w') : C_top_WholeCursors lsl msl K w0 := by
  apply S_top_WholeCursors
  unfold F_top_WholeCursors
  have hml := hm.len
  refine top_stands_spec (Sp.init w0) fun w1 s => gd_f rfl (top_begin_spec s (fun w' s => hv.ext s.ext) ho fun p isl tsl ids ts T w2 hb s => ?_)
  have hil := (s.view 0 rfl).len
  have htl := (s.view 1 rfl).len
  have hsz := hb.ok.1
  have hlen := hb.tr.len
  have g := hb.grow
  refine ⟨fun z w => (z.1 = true ∨ (ids ≠ [] ∧ moves.length ≤ 40)) ∧ (z.1 = false → ids ≠ [] ∧ moves.length ≤ 40) ∧ Sp w0 [own (.int .i64) isl ids, own .str tsl ts, sto p 1048576 T] w, ?_, ?_⟩
  · refine gd_f rfl (gd_eq (fun c => ⟨Or.inl rfl, (fun h => by cases h), s⟩) (fun c => ?_))
    have hne : ids ≠ [] := fun e => c (by rw [e] at hil; rw [hil]; rfl)
    by_cases c2 : moves.length ≤ 40
    · rw [decide_eq_false (by omega)]
      exact ⟨Or.inr ⟨hne, c2⟩, fun _ => ⟨hne, c2⟩, s⟩
    · rw [decide_eq_true (by omega)]
      exact ⟨Or.inl rfl, (fun h => by cases h), s⟩
  clear s
  rintro ⟨z, _⟩ w3 ⟨hz1, hz2, s⟩ _
  dsimp only at hz1 hz2 ⊢
  cases z with
  | true => exact gd_t rfl (h _ s.ext)
  | false => ?_
  refine gd_f rfl ?_
  obtain ⟨hne, h40⟩ := hz2 rfl
  have hl1 : 1 ≤ ids.length := List.length_pos_iff.2 hne
  have hgi : ids[ids.length - 1]? = some (ids[ids.length - 1]'(by omega)) := List.getElem?_eq_getElem (by omega)
  have hgt : ts[ids.length - 1]? = some (ts[ids.length - 1]'(by omega)) := List.getElem?_eq_getElem (by omega)
  have ht400 := hb.ok.2 _ (List.mem_of_getElem? hgt)
  obtain ⟨d, nd⟩ := hb.tr.at_ _ _ _ hgi hgt
  generalize (ids[ids.length - 1]'(by omega)) = id at hgi nd
  generalize (ts[ids.length - 1]'(by omega)) = t at hgt ht400 nd
  have hts : (txt T id) = bytesOf t := nd.txt
  have hl : (txt T id).length = t.size := by rw [hts]; exact bytesOf_len t
  have nle := nd.le
  have n0 := nd.pos
  have hwl := g.len n0 nle
  have hrange := bytesOf_range t
  refine s.drawK fun w4 s => arith_i64 (by omega) (by omega) ((s.view 0 rfl).idx (n := ids.length - 1) (by omega) hgi rfl fun q hq => ⟨id, hq, arith_i64 (by omega) (by omega) ((s.view 1 rfl).idx (n := ids.length - 1) (by omega) hgt rfl fun q2 hq2 => ⟨t, hq2, cursor_New_sp s 2 rfl ⟨n0, nle⟩ fun c w5 s => nilIfc_nil (gd_f rfl ?_)⟩)⟩)
  rw [show (eAt T id).2.1.1 = (t.size : Int) by omega] at s
  refine loop_by (fun x => x.1) moves.length (fun _ _ w => ∃ a : Int, 0 ≤ a ∧ a ≤ t.size ∧ Sp w0 [cel c (curC p id t.size a), own (.int .i64) isl ids, own .str tsl ts, sto p 1048576 T] w) rfl ⟨0, Int.le_refl _, by omega, s⟩ ?_
  clear s
  rintro k ⟨_, _⟩ w6 hn rfl ⟨a, ha0, ha1, s⟩ _
  dsimp only
  refine gd_dec (fun c1 => ?_) (fun c1 => h _ s.ext)
  have hk' : k < moves.length := by omega
  refine (hm.ext s.ext).idx rfl (List.getElem?_eq_getElem hk') rfl fun q3 hq3 => ⟨moves[k], hq3, arith_i64 (by omega) (by omega) (top_at_spec (by omega) (by omega) ?_)⟩
  generalize (moves[k] : Int) = mv
  have hf := atN_bound (k := mv) (n := (t.size : Int) + 1) (by omega)
  generalize atN mv ((t.size : Int) + 1) = f at hf
  refine ⟨fun x w => x.1 = f ∧ Sp w0 [cel c (curC p id t.size f), own (.int .i64) isl ids, own .str tsl ts, sto p 1048576 T] w, ⟨by decide, letZ_mk (gd_eq (fun c2 => ?_) (fun c2 => ?_))⟩, ?_⟩
  · rw [if_neg (by omega)]
    refine cursor_Offset_sp s 0 rfl (arith_i64 (by omega) (by omega) (cursor_Skip_sp s 0 rfl ha0 ha1 (by omega) (by omega) (by omega) fun w7 s => ⟨rfl, ?_⟩))
    rw [show a + (f - a) = f by omega] at s
    exact s
  · exact cursor_Seek_sp s 0 rfl hf.1 (by omega) fun w7 s => nilIfc_nil (gd_f rfl ⟨rfl, s⟩)
  clear s
  rintro ⟨f2, _⟩ w7 ⟨e, s⟩ _
  have e : f2 = f := e
  subst e
  dsimp only
  refine lines_Position_sp s 3 rfl ⟨n0, nle⟩ hf.1 (by omega) fun w8 s => cursor_Line_sp s 0 3 rfl rfl ⟨n0, nle⟩ hf.1 (by omega) fun w9 s => ?_
  refine JoinP.inl (nilIfc_nil (gd_f rfl (cursor_Offset_sp s 0 rfl (gd_f (by simp) (gd_f (by simp) (gd_f (by simp) (cursor_Left_sp s 0 rfl hf.1 (by omega) (by omega) fun w10 s => arith_i64 (by omega) (by omega) ?_)))))))
  intro _
  refine gd_f (by simp) ?_
  have htl := tail_le (b := txt T id) (by rw [hts]; exact hrange)
  refine loop_by (fun x => x.2.2.1) f2.toNat (fun n x w => x.1 = (wOf ((txt T id).take n)).2.1 ∧ x.2.1 = n - (wOf ((txt T id).take n)).2.2.2.1 ∧ Sp w0 [cel c (curC p id t.size f2), own (.int .i64) isl ids, own .str tsl ts, sto p 1048576 T] w) rfl ⟨rfl, rfl, s⟩ ?_
  clear s
  rintro j ⟨want, start, _, _⟩ w11 hj rfl ⟨e1, e2, s⟩ _
  dsimp only at e1 e2 ⊢
  subst e1 e2
  have hb1 := htl j (by omega)
  refine gd_dec (fun c2 => ?_) (fun c2 => ?_)
  · have hj' : j < t.size := by omega
    have hgb := bytesOf_get t hj'
    have hst := lines_step (b := txt T id) (n := j) (c := ((t[j].toNat : Nat) : Int)) (by rw [hts]; exact hgb) (by have := (t[j]).toNat_lt; omega)
    refine ⟨fun x w => x.1 = (wOf ((txt T id).take (j + 1))).2.1 ∧ x.2.1 = ((j + 1 : Nat) : Int) - (wOf ((txt T id).take (j + 1))).2.2.2.1 ∧ Sp w0 [cel c (curC p id t.size f2), own (.int .i64) isl ids, own .str tsl ts, sto p 1048576 T] w, ?_, ?_⟩
    · refine ⟨Int.natCast_nonneg _, hj', gd_eq (fun c3 => ?_) (fun c3 => ?_)⟩
      · have c3 : ((t[j].toNat : Nat) : Int) = 10 := c3
        rw [if_pos c3, if_pos c3] at hst
        refine arith_i64 (by omega) (by omega) (arith_i64 (by omega) (by omega) ⟨hst.1.symm, ?_, s⟩)
        dsimp only
        rw [hst.2]; omega
      · have c3 : ¬ ((t[j].toNat : Nat) : Int) = 10 := c3
        rw [if_neg c3, if_neg c3] at hst
        refine ⟨?_, ?_, s⟩
        · dsimp only; rw [hst.1]; omega
        · dsimp only; rw [hst.2]; omega
    · clear s
      rintro ⟨want, start, _⟩ w12 ⟨e1, e2, s⟩ _
      dsimp only at e1 e2 ⊢
      exact arith_i64 (by omega) (by omega) (loop_nx (by omega) ⟨e1, e2, s⟩)
  have ej : j = f2.toNat := by omega
  subst ej
  have hmin : 0 ≤ (if (t.size : Int) < f2 + 7 then (t.size : Int) else f2 + 7) ∧ f2 ≤ (if (t.size : Int) < f2 + 7 then (t.size : Int) else f2 + 7) ∧ (if (t.size : Int) < f2 + 7 then (t.size : Int) else f2 + 7) ≤ t.size ∧ (if (t.size : Int) < f2 + 7 then (t.size : Int) else f2 + 7) = f2 + (if (t.size : Int) - f2 < 7 then (t.size : Int) - f2 else 7) := by split <;> split <;> omega
  refine JoinP.inl (s.drawK fun w12 s => gd_f (by simp) (arith_i64 (by omega) (by omega) (gd_f (by simp; omega) (arith_i64 (by omega) (by omega) ⟨fun x e => by cases e; omega, fun x e => by cases e; dsimp only; omega, ?_⟩))))
  dsimp only
  refine cursor_Copy_sp s 0 rfl fun c3 w13 s => cursor_Read_sp s 0 4 rfl rfl ⟨n0, nle⟩ hf.1 (by omega) (by omega) (by decide) fun sl w14 s => toStr (s.view 0 rfl) ?_
  intro _
  refine gd_f ?_ (arith_i64 (by omega) (by omega) (loop_nx hk' ⟨f2, hf.1, by omega, s.drop 2⟩))
  have eb : bstr (sub (txt T id) f2.toNat (if (t.size : Int) - f2 < 7 then (t.size : Int) - f2 else 7).toNat) = t.extract f2.toNat (if (t.size : Int) < f2 + 7 then (t.size : Int) else f2 + 7).toNat := by
    rw [← bstr_bytesOf (t.extract _ _), bytesOf_extract, hts, hmin.2.2.2]
    unfold sub
    congr 2
    omega
  rw [eb]
  simp

end Go.Proofs.YtcmncfglcjcmhaaGreat
