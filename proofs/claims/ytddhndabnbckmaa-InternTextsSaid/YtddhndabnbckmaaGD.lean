/- Texts that belong together, joined: RefA, RefB, RefC, LawAA, LawBA, LawCA, LawDA, LawDB, ImpA, ImpB, ImpC. No conditions. -/
import Derived.Test.YtddhndabnbckmaaGC
import Derived.Test.YtddhndabnbckmaaGB
/- The specification of the layer (evergreenref10): its store is the same list. -/
set_option linter.unusedVariables false
set_option linter.unusedSimpArgs false
namespace Go.Proofs.Ytddhndabnbckmaa
open Go.Den

variable {w0 w : World} {Ω : List Ob} {most : Int} {T : List ET} {j : Nat} {m : yevergreenref10_S.T}

def rulesOf (T : List ET) : List yapi_Rule.T := T.map fun e => e.1
def lensOf (T : List ET) : List (Ty.int .i64).T := T.map fun e => e.2.1.1
def depsOf (T : List ET) : List (Ty.int .i64).T := T.map fun e => e.2.2.1
theorem rulesOf_len (T : List ET) : (rulesOf T).length = T.length := List.length_map _

def rfs (m : yevergreenref10_S.T) (most : Int) (T : List ET) : Ob :=
  ⟨true, fun B w => @Eq Int m.1 most ∧ View yapi_Rule w m.2.1 (rulesOf T) ∧ View (.int .i64) w m.2.2.1 (lensOf T) ∧ View (.int .i64) w m.2.2.2 (depsOf T) ∧ ∀ b, blk m.2.1 b ∨ blk m.2.2.1 b ∨ blk m.2.2.2 b → B b,
    fun h f hB => ⟨h.1, h.2.1.fr f fun b hb => hB b (h.2.2.2.2 b (Or.inl hb)), h.2.2.1.fr f fun b hb => hB b (h.2.2.2.2 b (Or.inr (Or.inl hb))), h.2.2.2.1.fr f fun b hb => hB b (h.2.2.2.2 b (Or.inr (Or.inr hb))), h.2.2.2.2⟩⟩
theorem Sp.rfs_ (s : Sp w0 Ω w) (j : Nat) (h : Ω[j]? = some (rfs m most T)) : @Eq Int m.1 most ∧ View yapi_Rule w m.2.1 (rulesOf T) ∧ View (.int .i64) w m.2.2.1 (lensOf T) ∧ View (.int .i64) w m.2.2.2 (depsOf T) := by
  obtain ⟨B, h, _⟩ := s.get j h
  exact ⟨h.1, h.2.1, h.2.2.1, h.2.2.2.1⟩
theorem blk_none {b : Nat} (h : blk ⟨none, 0, 0⟩ b) : False := by
  obtain ⟨q, h, _⟩ := h
  cases h

def mZero : yevergreenref10_S.T := ((0 : Int), (⟨none, 0, 0⟩ : Sl), (⟨none, 0, 0⟩ : Sl), (⟨none, 0, 0⟩ : Sl))
theorem Sp.rfs0 (s : Sp w0 Ω w) : Sp w0 (rfs mZero 0 [] :: Ω) w := by
  refine s.push (B := fun _ => False) (.refl _ _) ⟨rfl, .nil, .nil, .nil, ?_⟩ (fun _ h => h.elim)
  rintro b (h | h | h) <;> exact blk_none h
theorem clip_form (n : Int) : (if (0 : Int) < (if 1048576 < n then 1048576 else n) then (if 1048576 < n then 1048576 else n) else 0) = if n < 0 then 0 else if 1048576 < n then 1048576 else n := by grind
theorem ref10_New_spec {n : Int} (s : Sp w0 Ω w) {K : yevergreenref10_S.T → World → Prop}
    (h : ∀ m w', Sp w0 (rfs m (if n < 0 then 0 else if 1048576 < n then 1048576 else n) [] :: Ω) w' → m.1 = (if n < 0 then 0 else if 1048576 < n then 1048576 else n) → m.2.1 = ⟨none, 0, 0⟩ → K m w') : C_ref10_New n K w := by
  apply S_ref10_New
  unfold F_ref10_New
  refine s.allocK fun b w1 s1 => s1.st0 0 rfl rfl rfl fun w2 s2 => s2.ld0 (ty := yevergreenref10_S) (x := (_, ⟨none, 0, 0⟩, ⟨none, 0, 0⟩, ⟨none, 0, 0⟩)) 0 rfl rfl (h _ _ (s2.pop.push (B := fun _ => False) (.refl _ _) ⟨?_, .nil, .nil, .nil, ?_⟩ (fun _ h => h.elim)) ?_ rfl)
  · exact clip_form n
  · rintro b (h | h | h) <;> exact blk_none h
  · exact clip_form n
theorem ref10_Unknown_spec {id : Int} (s : Sp w0 Ω w) (j : Nat) (hj : Ω[j]? = some (rfs m most T)) {K : Bool → World → Prop} (h : ∀ w', Sp w0 Ω w' → K (!known T id) w') : C_ref10_Unknown m id K w := by
  apply S_ref10_Unknown
  unfold F_ref10_Unknown
  obtain ⟨_, hv, _⟩ := Sp.rfs_ s j hj
  have e := hv.len
  rw [rulesOf_len] at e
  refine s.allocK fun b w1 s1 => gd_dec (fun h1 => ?_) (fun h1 => s1.lds 0 1 rfl rfl ?_)
  · have : true = !known T id := by simp [known]; omega
    rw [this]; exact h _ s1.pop
  · have : decide ((m.2.1.len : Int) < id) = !known T id := by rw [e, known, ← decide_not]; exact decide_eq_decide.2 (by omega)
    rw [this]; exact h _ s1.pop
theorem known_get {id : Int} (hk : known T id = true) (hne : id ≠ 0) : 1 ≤ id ∧ id ≤ T.length ∧ T[(id - 1).toNat]? = some (eAt T id) := by
  have := of_decide_eq_true hk
  exact ⟨by omega, this.2, eAt_get (by omega) this.2⟩
theorem ref10_Length_spec {id : Int} (s : Sp w0 Ω w) (j : Nat) (hj : Ω[j]? = some (rfs m most T)) (hk : known T id = true) (hl : T.length ≤ 1048576) {K : Int → World → Prop} (h : ∀ w', Sp w0 Ω w' → K (eAt T id).2.1.1 w') : C_ref10_Length m id K w := by
  apply S_ref10_Length
  unfold F_ref10_Length
  refine s.allocK fun b w1 s1 => gd_eq (fun e => ?_) (fun e => ?_)
  · subst e; exact h _ s1.pop
  · obtain ⟨h1, h2, h3⟩ := known_get hk e
    obtain ⟨_, _, hv, _⟩ := Sp.rfs_ s1 (j + 1) hj
    exact s1.lds 0 2 rfl rfl (arith_i64 (by omega) (by omega) (hv.idx (n := (id - 1).toNat) (by omega) (by first | rw [lensOf, List.getElem?_map, h3]; rfl | rw [depsOf, List.getElem?_map, h3]; rfl) rfl fun q hq => ⟨_, hq, h _ s1.pop⟩))
theorem ref10_Depth_spec {id : Int} (s : Sp w0 Ω w) (j : Nat) (hj : Ω[j]? = some (rfs m most T)) (hk : known T id = true) (hl : T.length ≤ 1048576) {K : Int → World → Prop} (h : ∀ w', Sp w0 Ω w' → K (eAt T id).2.2.1 w') : C_ref10_Depth m id K w := by
  apply S_ref10_Depth
  unfold F_ref10_Depth
  refine s.allocK fun b w1 s1 => gd_eq (fun e => ?_) (fun e => ?_)
  · subst e; exact h _ s1.pop
  · obtain ⟨h1, h2, h3⟩ := known_get hk e
    obtain ⟨_, _, _, hv⟩ := Sp.rfs_ s1 (j + 1) hj
    exact s1.lds 0 3 rfl rfl (arith_i64 (by omega) (by omega) (hv.idx (n := (id - 1).toNat) (by omega) (by first | rw [lensOf, List.getElem?_map, h3]; rfl | rw [depsOf, List.getElem?_map, h3]; rfl) rfl fun q hq => ⟨_, hq, h _ s1.pop⟩))

theorem lkR_first : ∀ (T : List ET) (r : RT) (n : Nat) (k : Nat), (∀ i, i < n → ∀ e, T[i]? = some e → e.1 ≠ r) → (∀ e, T[n]? = some e → e.1 = r) → n < T.length →
    ((T.zipIdx k).map fun p => (p.1.1, (p.2 : Int) + 1)).find? (fun p => beqT yapi_Rule r p.1) = some (r, ((k + n : Nat) : Int) + 1)
  | [], _, _, _, _, _, h => by simp at h
  | e :: T, r, 0, k, _, h2, _ => by
    have := h2 e rfl
    rw [List.zipIdx_cons, List.map_cons, List.find?_cons]
    simp only [this, (beqT_iff yapi_Rule rfl r r).2 rfl, Nat.add_zero]
  | e :: T, r, n + 1, k, h1, h2, h3 => by
    have h0 := h1 0 (by omega) e rfl
    have hb : beqT yapi_Rule r e.1 = false := by
      cases hb : beqT yapi_Rule r e.1
      · rfl
      · exact absurd ((beqT_iff yapi_Rule rfl _ _).1 hb).symm h0
    rw [List.zipIdx_cons, List.map_cons, List.find?_cons]
    simp only [hb]
    have := lkR_first T r n (k + 1) (fun i hi e' he => h1 (i + 1) (by omega) e' (by simpa using he)) (fun e' he => h2 e' (by simpa using he)) (by simpa using h3)
    rw [this]
    congr 2
    omega
theorem lkR_at {r : RT} {n : Nat} {e : ET} (h1 : ∀ i, i < n → ∀ e, T[i]? = some e → e.1 ≠ r) (he : T[n]? = some e) (h2 : e.1 = r) : lkR T r = some ((n : Int) + 1) := by
  unfold lkR lk idx
  rw [lkR_first T r n 0 h1 (fun e' he' => by rw [he] at he'; cases he'; exact h2) (List.getElem?_eq_some_iff.1 he).1]
  simp
theorem ref10_Find_spec {r : RT} (s : Sp w0 Ω w) (j : Nat) (hj : Ω[j]? = some (rfs m most T)) (hl : T.length ≤ 1048576) {K : Int → World → Prop} (h : ∀ w', Sp w0 Ω w' → K ((lkR T r).getD 0) w') : C_ref10_Find m r K w := by
  apply S_ref10_Find
  unfold F_ref10_Find
  refine s.allocK fun a1 w1 s => s.allocK fun a2 w2 s => s.lds 1 1 rfl rfl ?_
  obtain ⟨_, hv0, _⟩ := Sp.rfs_ s (j + 2) hj
  have hlen := hv0.len
  rw [rulesOf_len] at hlen
  refine loop_by (fun x => x.1) T.length (fun n _ w => (∀ i, i < n → ∀ e, T[i]? = some e → e.1 ≠ r) ∧ Sp w0 (cel a2 (cells yapi_Rule r) :: cel a1 (cells yevergreenref10_S m) :: Ω) w) rfl ⟨fun i hi => by omega, s⟩ ?_
  rintro n ⟨x, _⟩ w3 hn hx ⟨hno, s⟩ _
  dsimp only at hx ⊢
  subst hx
  refine gd_dec (fun hlt => s.drawK fun w4 s => s.lds 1 1 rfl rfl ?_) (fun hge => ?_)
  · obtain ⟨_, hv, _⟩ := Sp.rfs_ s (j + 2) hj
    have hn' : n < T.length := by omega
    have he : T[n]? = some T[n] := List.getElem?_eq_getElem hn'
    refine hv.idx rfl (x := T[n].1) (by rw [rulesOf, List.getElem?_map, he]; rfl) rfl fun q hq => ⟨_, hq, s.ld0 0 rfl rfl (rule_eql (gd_dec (fun e => ?_) (fun e => ?_)))⟩
    · refine arith_i64 (by omega) (by omega) ?_
      have := h _ (s.drop 2)
      rw [lkR_at hno he e] at this
      exact this
    · refine arith_i64 (by omega) (by omega) (loop_nx hn' ⟨fun i hi e' he' => ?_, s⟩)
      by_cases c : i < n
      · exact hno i c e' he'
      · have : i = n := by omega
        subst this
        rw [he] at he'
        cases he'
        exact e
  · have hn' : n = T.length := by omega
    have : lkR T r = none := lkR_none fun e he => by
      obtain ⟨i, hi⟩ := List.getElem?_of_mem he
      exact hno i (by rw [hn']; exact (List.getElem?_eq_some_iff.1 hi).1) e hi
    have h' := h _ (s.drop 2)
    rw [this] at h'
    exact h'

end Go.Proofs.Ytddhndabnbckmaa

/- The specification of the layer (evergreenref10): its calls answer as the store's list. -/
set_option linter.unusedVariables false
set_option linter.unusedSimpArgs false
namespace Go.Proofs.Ytddhndabnbckmaa
open Go.Den

variable {w0 w : World} {Ω : List Ob} {most : Int} {T : List ET} {j : Nat} {m : yevergreenref10_S.T}

theorem View.at_nil {ty : Ty} {s : Sl} {xs : List ty.T} {w : World} (v : View ty w s xs) : s.len = xs.length := v.len
theorem rulesOf_append (T : List ET) (e : ET) : rulesOf (T ++ [e]) = rulesOf T ++ [e.1] := by simp [rulesOf]
theorem lensOf_append (T : List ET) (e : ET) : lensOf (T ++ [e]) = lensOf T ++ [e.2.1.1] := by simp [lensOf]
theorem depsOf_append (T : List ET) (e : ET) : depsOf (T ++ [e]) = depsOf T ++ [e.2.2.1] := by simp [depsOf]
theorem lensOf_len (T : List ET) : (lensOf T).length = T.length := List.length_map _
theorem depsOf_len (T : List ET) : (depsOf T).length = T.length := List.length_map _

theorem ref10_intern_spec {e : ET} {r : RT} {len dep : Int} (he : r = e.1 ∧ len = e.2.1.1 ∧ dep = e.2.2.1) (s : Sp w0 Ω w) (j : Nat) (hj : Ω[j]? = some (rfs m most T)) (hl : T.length ≤ 1048576) {K : yevergreenref10_S.T × Int × Int → World → Prop}
    (h : ∀ m' w', Sp w0 (rfs m' most (pAdd T most e).1 :: Ω) w' → K (m', (pAdd T most e).2.1, codeOf (pAdd T most e).2.2) w') : C_ref10_intern m r len dep K w := by
  obtain ⟨rfl, rfl, rfl⟩ := he
  apply S_ref10_intern
  unfold F_ref10_intern
  refine s.allocK fun a1 w1 s => s.allocK fun a2 w2 s => s.allocK fun a3 w3 s => s.ld0 2 rfl rfl (s.ld0 1 rfl rfl (ref10_Find_spec s (j + 3) hj hl fun w4 s => ?_))
  cases hf : lkR T e.1 with
  | some i =>
    obtain ⟨_, q2, q3⟩ := pAdd_some (most := most) hf
    rw [q2] at h
    refine gd_t (by simpa using q3) (s.ld0 2 rfl rfl (s.st0 0 rfl rfl rfl fun w5 s => s.ld0 0 rfl rfl ?_))
    exact h _ _ ((s.drop 3).dup j hj rfl)
  | none =>
    have hlen := (Sp.rfs_ s (j + 3) hj).2.1.len
    rw [rulesOf_len] at hlen
    have hmost := (Sp.rfs_ s (j + 3) hj).1
    refine gd_f rfl (s.lds 2 1 rfl rfl (s.ldi 2 0 rfl rfl (gd_dec (fun hm => ?_) (fun hm => ?_))))
    · obtain ⟨_, q2⟩ := pAdd_full (most := most) hf (by omega)
      rw [q2] at h
      exact s.ld0 2 rfl rfl (s.st0 0 rfl rfl rfl fun w6 s => s.ld0 0 rfl rfl (h _ _ ((s.drop 3).dup j hj rfl)))
    · obtain ⟨_, q2⟩ := pAdd_new (most := most) hf (by omega)
      rw [q2] at h
      refine ⟨fun _ w => ∃ s1 : Sl, Sp w0 (own yapi_Rule s1 (rulesOf T ++ [e.1]) :: cel a3 [.int .i64 (0 : Int), .slice none 0 0, .slice none 0 0, .slice none 0 0] :: cel a2 (cells yapi_Rule e.1) :: cel a1 [.int .i64 m.1, .slice s1.a s1.len s1.cap, .slice m.2.2.1.a m.2.2.1.len m.2.2.1.cap, .slice m.2.2.2.a m.2.2.2.len m.2.2.2.cap] :: Ω) w, ?_, ?_⟩
      · refine s.drawK fun w5 s => s.lds 2 1 rfl rfl (s.ld0 1 rfl rfl ⟨s.allocK fun b1 w6 s => ⟨s.still 2 0 rfl rfl, s.still 3 1 rfl rfl, ?_, ?_⟩, ?_⟩)
        · refine (s.lit (ty := yapi_Rule) 0 rfl [] 0 rfl rfl).app 0 rfl (Sp.rfs_ s (j + 4) hj).2.1 (by have := rulesOf_len T; simp only [List.length_append, List.length_cons, List.length_nil]; omega) fun s1 w7 s => ⟨s.still 2 0 rfl rfl, s.allocK fun b2 w8 s => ?_⟩
          refine (s.pull 1 rfl).app 0 rfl ((s.lit (ty := yapi_Rule) 0 rfl [e.1] 1 (by simp [flat]) rfl).view 0 rfl) (by have := rulesOf_len T; simp only [List.length_append, List.length_cons, List.length_nil]; omega) fun s2 w9 s => s.st 4 1 rfl rfl rfl fun w10 s => ⟨s2, ?_⟩
          exact s.era 1
        · refine s.allocK fun b2 w7 s => ⟨s.still 4 1 rfl rfl, ((s.pull 1 rfl).lit (ty := yapi_Rule) 0 rfl [] 0 rfl rfl).app 0 rfl (Sp.rfs_ s (j + 5) hj).2.1 (by have := rulesOf_len T; simp only [List.length_append, List.length_cons, List.length_nil]; omega) fun s1 w8 s => ?_⟩
          refine s.app 0 rfl ((s.lit (ty := yapi_Rule) 1 rfl [e.1] 1 (by simp [flat]) rfl).view 1 rfl) (by have := rulesOf_len T; simp only [List.length_append, List.length_cons, List.length_nil]; omega) fun s2 w9 s => s.st 4 1 rfl rfl rfl fun w10 s => ⟨s2, ?_⟩
          exact s.era 1
        · refine s.allocK fun b2 w6 s => ⟨s.still 3 1 rfl rfl, s.allocK fun b1 w7 s => ⟨s.still 4 1 rfl rfl, (s.lit (ty := yapi_Rule) 0 rfl [] 0 rfl rfl).app 0 rfl (Sp.rfs_ s (j + 5) hj).2.1 (by have := rulesOf_len T; simp only [List.length_append, List.length_cons, List.length_nil]; omega) fun s1 w8 s => ?_⟩⟩
          refine s.app 0 rfl ((s.lit (ty := yapi_Rule) 1 rfl [e.1] 1 (by simp [flat]) rfl).view 1 rfl) (by have := rulesOf_len T; simp only [List.length_append, List.length_cons, List.length_nil]; omega) fun s2 w9 s => s.st 4 1 rfl rfl rfl fun w10 s => ⟨s2, ?_⟩
          exact s.era 1
      · rintro _ w5 ⟨s1, s⟩ _
        refine s.allocK fun b3 w6 s => s.lds 4 2 rfl rfl ((s.lit (ty := .int .i64) 0 rfl [] 0 rfl rfl).app 0 rfl (Sp.rfs_ s (j + 5) hj).2.2.1 (by have := lensOf_len T; simp only [List.length_append, List.length_cons, List.length_nil]; omega) fun s2 w7 s => s.allocK fun b4 w8 s => ?_)
        refine (s.pull 1 rfl).app 0 rfl ((s.lit (ty := .int .i64) 0 rfl [e.2.1.1] 1 (by simp [flat]; rfl) rfl).view 0 rfl) (by have := lensOf_len T; simp only [List.length_append, List.length_cons, List.length_nil]; omega) fun s2 w9 s => s.st 5 2 rfl rfl rfl fun w10 s => ?_
        refine (s.era 1).allocK fun b3 w6 s => s.lds 5 3 rfl rfl ((s.lit (ty := .int .i64) 0 rfl [] 0 rfl rfl).app 0 rfl (Sp.rfs_ s (j + 6) hj).2.2.2 (by have := depsOf_len T; simp only [List.length_append, List.length_cons, List.length_nil]; omega) fun s3 w7 s => s.allocK fun b4 w8 s => ?_)
        refine (s.pull 1 rfl).app 0 rfl ((s.lit (ty := .int .i64) 0 rfl [e.2.2.1] 1 (by simp [flat]; rfl) rfl).view 0 rfl) (by have := depsOf_len T; simp only [List.length_append, List.length_cons, List.length_nil]; omega) fun s3 w9 s => s.st 6 3 rfl rfl rfl fun w10 s => ?_
        refine (s.era 1).drawK fun w11 s => s.ld0 (ty := yevergreenref10_S) (x := (m.1, s1, s2, s3)) 5 rfl rfl (s.lds 5 1 rfl rfl (s.st0 3 rfl rfl rfl fun w12 s => ⟨s.still 5 1 rfl rfl, s.ld0 3 rfl rfl ?_⟩))
        have hs1 := (s.own_ 2 rfl).view.len
        have key : ((s1.len : Int)) = (T.length : Int) + 1 := by
          have := rulesOf_len T
          rw [hs1]; simp only [List.length_append, List.length_cons, List.length_nil]; omega
        rw [key]
        refine h (m.1, s1, s2, s3) _ ((s.pick [2, 1, 0] 6 rfl (by decide)).fold 3 _ (Or.inl rfl) fun f hP _ => ?_)
        have o1 := (hP 0 _ (by decide) rfl).1
        have o2 := (hP 1 _ (by decide) rfl).1
        have o3 := (hP 2 _ (by decide) rfl).1
        refine ⟨hmost, ?_, ?_, ?_, ?_⟩
        · rw [rulesOf_append]; exact o1.1.view
        · rw [lensOf_append]; exact o2.1.view
        · rw [depsOf_append]; exact o3.1.view
        · rintro b (hb | hb | hb)
          · exact ⟨0, by decide, by simp, o1.2 b hb⟩
          · exact ⟨1, by decide, by simp, o2.2 b hb⟩
          · exact ⟨2, by decide, by simp, o3.2 b hb⟩

end Go.Proofs.Ytddhndabnbckmaa

/- The specification of the layer (evergreenref10): Letter, Pair, Power. -/
set_option linter.unusedVariables false
set_option linter.unusedSimpArgs false
namespace Go.Proofs.Ytddhndabnbckmaa
open Go.Den

variable {w0 w : World} {Ω : List Ob} {most : Int} {T : List ET} {j : Nat} {m : yevergreenref10_S.T}

theorem ref10_Letter_spec {b : Int} (s : Sp w0 Ω w) (j : Nat) (hj : Ω[j]? = some (rfs m most T)) (hl : T.length ≤ 1048576) {K : yevergreenref10_S.T × Int × Int → World → Prop}
    (h : ∀ m' w', Sp w0 (rfs m' most (pLetter T most b).1 :: Ω) w' → K (m', (pLetter T most b).2.1, codeOf (pLetter T most b).2.2) w') : C_ref10_Letter m b K w := by
  apply S_ref10_Letter
  unfold F_ref10_Letter
  refine s.allocK fun a1 w1 s => s.allocK fun a2 w2 s => s.ld0 1 rfl rfl (ref10_intern_spec (e := mkLetter b) ⟨rfl, (wLetter_len b).symm, rfl⟩ s (j + 2) hj hl fun m' w3 s => s.st0 1 rfl rfl rfl fun w4 s => s.ld0 1 rfl rfl ?_)
  exact h _ _ (s.pick [0] 3 rfl (by decide))
theorem known_false_or {l r : Int} (hu : ¬(known T l = false ∨ known T r = false)) : known T l = true ∧ known T r = true := by
  cases h1 : known T l <;> cases h2 : known T r <;> simp_all
theorem ref10_Pair_spec {l r : Int} (g : Grow T) (s : Sp w0 Ω w) (j : Nat) (hj : Ω[j]? = some (rfs m most T)) (hl : T.length ≤ 1048576) {K : yevergreenref10_S.T × Int × Int → World → Prop}
    (h : ∀ m' w', Sp w0 (rfs m' most (pPair T most l r).1 :: Ω) w' → K (m', (pPair T most l r).2.1, codeOf (pPair T most l r).2.2) w') : C_ref10_Pair m l r K w := by
  apply S_ref10_Pair
  unfold F_ref10_Pair
  refine s.allocK fun a1 w1 s => s.allocK fun a2 w2 s => ⟨fun x w => x.1 = !(known T l && known T r) ∧ Sp w0 (cel a2 [.int .i64 (0 : Int), .slice none 0 0, .slice none 0 0, .slice none 0 0] :: cel a1 (cells yevergreenref10_S m) :: Ω) w, ?_, ?_⟩
  · refine s.ld0 1 rfl rfl (ref10_Unknown_spec s (j + 2) hj fun w3 s => gd_mk (fun e => ⟨?_, s⟩) (fun e => s.ld0 1 rfl rfl (ref10_Unknown_spec s (j + 2) hj fun w4 s => ⟨?_, s⟩)))
    · have : known T l = false := by simpa using e
      rw [this]; rfl
    · have : known T l = true := by simpa using e
      rw [this]; rfl
  rintro ⟨x, _⟩ w3 ⟨hx, s⟩ _
  dsimp only at hx
  by_cases hu : known T l = false ∨ known T r = false
  · have hp : pPair T most l r = (T, (0, errV 1)) := by unfold pPair; rw [if_pos hu]
    rw [hp] at h
    refine gd_t (by rw [hx]; rcases hu with hu | hu <;> simp [hu]) ?_
    repeat (first
      | (refine s.allocK ?_; intro b w s)
      | (refine s.drawK ?_; intro w s)
      | refine ⟨by decide, ?_⟩
      | refine letZ_mk ?_
      | refine nonNil_some ?_
      | refine gd_t rfl ?_
      | refine gd_f rfl ?_
      | refine nilIfc_nil ?_
      | refine nilIfc_err ?_
      | exact s.still 0 _ rfl rfl
      | exact s.at_ 0 rfl
      | exact s.still 1 _ rfl rfl
      | exact s.at_ 1 rfl
      | exact s.still 2 _ rfl rfl
      | exact s.at_ 2 rfl
      | exact s.still 3 _ rfl rfl
      | exact s.at_ 3 rfl
      | exact s.still 4 _ rfl rfl
      | exact s.at_ 4 rfl
      | exact s.still 5 _ rfl rfl
      | exact s.at_ 5 rfl
      | refine s.ld0 0 rfl rfl ?_
      | refine s.ldi 0 _ rfl rfl ?_
      | refine s.lds 0 _ rfl rfl ?_
      | refine s.ldp 0 _ rfl rfl ?_
      | refine s.ldm 0 _ rfl rfl ?_
      | refine s.ldb 0 _ rfl rfl ?_
      | refine s.ld 0 _ rfl rfl ?_
      | (refine s.st0 0 rfl rfl rfl ?_; intro w s)
      | (refine s.st 0 _ rfl rfl rfl ?_; intro w s)
      | refine s.ld0 1 rfl rfl ?_
      | refine s.ldi 1 _ rfl rfl ?_
      | refine s.lds 1 _ rfl rfl ?_
      | refine s.ldp 1 _ rfl rfl ?_
      | refine s.ldm 1 _ rfl rfl ?_
      | refine s.ldb 1 _ rfl rfl ?_
      | refine s.ld 1 _ rfl rfl ?_
      | (refine s.st0 1 rfl rfl rfl ?_; intro w s)
      | (refine s.st 1 _ rfl rfl rfl ?_; intro w s)
      | refine s.ld0 2 rfl rfl ?_
      | refine s.ldi 2 _ rfl rfl ?_
      | refine s.lds 2 _ rfl rfl ?_
      | refine s.ldp 2 _ rfl rfl ?_
      | refine s.ldm 2 _ rfl rfl ?_
      | refine s.ldb 2 _ rfl rfl ?_
      | refine s.ld 2 _ rfl rfl ?_
      | (refine s.st0 2 rfl rfl rfl ?_; intro w s)
      | (refine s.st 2 _ rfl rfl rfl ?_; intro w s)
      | refine s.ld0 3 rfl rfl ?_
      | refine s.ldi 3 _ rfl rfl ?_
      | refine s.lds 3 _ rfl rfl ?_
      | refine s.ldp 3 _ rfl rfl ?_
      | refine s.ldm 3 _ rfl rfl ?_
      | refine s.ldb 3 _ rfl rfl ?_
      | refine s.ld 3 _ rfl rfl ?_
      | (refine s.st0 3 rfl rfl rfl ?_; intro w s)
      | (refine s.st 3 _ rfl rfl rfl ?_; intro w s)
      | refine s.ld0 4 rfl rfl ?_
      | refine s.ldi 4 _ rfl rfl ?_
      | refine s.lds 4 _ rfl rfl ?_
      | refine s.ldp 4 _ rfl rfl ?_
      | refine s.ldm 4 _ rfl rfl ?_
      | refine s.ldb 4 _ rfl rfl ?_
      | refine s.ld 4 _ rfl rfl ?_
      | (refine s.st0 4 rfl rfl rfl ?_; intro w s)
      | (refine s.st 4 _ rfl rfl rfl ?_; intro w s)
      | refine s.ld0 5 rfl rfl ?_
      | refine s.ldi 5 _ rfl rfl ?_
      | refine s.lds 5 _ rfl rfl ?_
      | refine s.ldp 5 _ rfl rfl ?_
      | refine s.ldm 5 _ rfl rfl ?_
      | refine s.ldb 5 _ rfl rfl ?_
      | refine s.ld 5 _ rfl rfl ?_
      | (refine s.st0 5 rfl rfl rfl ?_; intro w s)
      | (refine s.st 5 _ rfl rfl rfl ?_; intro w s)
      | refine arith_i64 (by omega) (by omega) ?_)
    exact h _ _ ((s.drop 2).dup j hj rfl)
  obtain ⟨hkl, hkr⟩ := known_false_or hu
  refine gd_f (by rw [hx, hkl, hkr]; rfl) (gd_eq (fun hl0 => ?_) (fun hl0 => gd_eq (fun hr0 => ?_) (fun hr0 => ?_)))
  · have hp : pPair T most l r = (T, (r, .nilIface)) := by unfold pPair; rw [if_neg hu, if_pos hl0]
    rw [hp] at h
    repeat (first
      | (refine s.allocK ?_; intro b w s)
      | (refine s.drawK ?_; intro w s)
      | refine ⟨by decide, ?_⟩
      | refine letZ_mk ?_
      | refine nonNil_some ?_
      | refine gd_t rfl ?_
      | refine gd_f rfl ?_
      | refine nilIfc_nil ?_
      | refine nilIfc_err ?_
      | exact s.still 0 _ rfl rfl
      | exact s.at_ 0 rfl
      | exact s.still 1 _ rfl rfl
      | exact s.at_ 1 rfl
      | exact s.still 2 _ rfl rfl
      | exact s.at_ 2 rfl
      | exact s.still 3 _ rfl rfl
      | exact s.at_ 3 rfl
      | exact s.still 4 _ rfl rfl
      | exact s.at_ 4 rfl
      | exact s.still 5 _ rfl rfl
      | exact s.at_ 5 rfl
      | refine s.ld0 0 rfl rfl ?_
      | refine s.ldi 0 _ rfl rfl ?_
      | refine s.lds 0 _ rfl rfl ?_
      | refine s.ldp 0 _ rfl rfl ?_
      | refine s.ldm 0 _ rfl rfl ?_
      | refine s.ldb 0 _ rfl rfl ?_
      | refine s.ld 0 _ rfl rfl ?_
      | (refine s.st0 0 rfl rfl rfl ?_; intro w s)
      | (refine s.st 0 _ rfl rfl rfl ?_; intro w s)
      | refine s.ld0 1 rfl rfl ?_
      | refine s.ldi 1 _ rfl rfl ?_
      | refine s.lds 1 _ rfl rfl ?_
      | refine s.ldp 1 _ rfl rfl ?_
      | refine s.ldm 1 _ rfl rfl ?_
      | refine s.ldb 1 _ rfl rfl ?_
      | refine s.ld 1 _ rfl rfl ?_
      | (refine s.st0 1 rfl rfl rfl ?_; intro w s)
      | (refine s.st 1 _ rfl rfl rfl ?_; intro w s)
      | refine s.ld0 2 rfl rfl ?_
      | refine s.ldi 2 _ rfl rfl ?_
      | refine s.lds 2 _ rfl rfl ?_
      | refine s.ldp 2 _ rfl rfl ?_
      | refine s.ldm 2 _ rfl rfl ?_
      | refine s.ldb 2 _ rfl rfl ?_
      | refine s.ld 2 _ rfl rfl ?_
      | (refine s.st0 2 rfl rfl rfl ?_; intro w s)
      | (refine s.st 2 _ rfl rfl rfl ?_; intro w s)
      | refine s.ld0 3 rfl rfl ?_
      | refine s.ldi 3 _ rfl rfl ?_
      | refine s.lds 3 _ rfl rfl ?_
      | refine s.ldp 3 _ rfl rfl ?_
      | refine s.ldm 3 _ rfl rfl ?_
      | refine s.ldb 3 _ rfl rfl ?_
      | refine s.ld 3 _ rfl rfl ?_
      | (refine s.st0 3 rfl rfl rfl ?_; intro w s)
      | (refine s.st 3 _ rfl rfl rfl ?_; intro w s)
      | refine s.ld0 4 rfl rfl ?_
      | refine s.ldi 4 _ rfl rfl ?_
      | refine s.lds 4 _ rfl rfl ?_
      | refine s.ldp 4 _ rfl rfl ?_
      | refine s.ldm 4 _ rfl rfl ?_
      | refine s.ldb 4 _ rfl rfl ?_
      | refine s.ld 4 _ rfl rfl ?_
      | (refine s.st0 4 rfl rfl rfl ?_; intro w s)
      | (refine s.st 4 _ rfl rfl rfl ?_; intro w s)
      | refine s.ld0 5 rfl rfl ?_
      | refine s.ldi 5 _ rfl rfl ?_
      | refine s.lds 5 _ rfl rfl ?_
      | refine s.ldp 5 _ rfl rfl ?_
      | refine s.ldm 5 _ rfl rfl ?_
      | refine s.ldb 5 _ rfl rfl ?_
      | refine s.ld 5 _ rfl rfl ?_
      | (refine s.st0 5 rfl rfl rfl ?_; intro w s)
      | (refine s.st 5 _ rfl rfl rfl ?_; intro w s)
      | refine arith_i64 (by omega) (by omega) ?_)
    exact h _ _ ((s.drop 2).dup j hj rfl)
  · have hp : pPair T most l r = (T, (l, .nilIface)) := by unfold pPair; rw [if_neg hu, if_neg hl0, if_pos hr0]
    rw [hp] at h
    repeat (first
      | (refine s.allocK ?_; intro b w s)
      | (refine s.drawK ?_; intro w s)
      | refine ⟨by decide, ?_⟩
      | refine letZ_mk ?_
      | refine nonNil_some ?_
      | refine gd_t rfl ?_
      | refine gd_f rfl ?_
      | refine nilIfc_nil ?_
      | refine nilIfc_err ?_
      | exact s.still 0 _ rfl rfl
      | exact s.at_ 0 rfl
      | exact s.still 1 _ rfl rfl
      | exact s.at_ 1 rfl
      | exact s.still 2 _ rfl rfl
      | exact s.at_ 2 rfl
      | exact s.still 3 _ rfl rfl
      | exact s.at_ 3 rfl
      | exact s.still 4 _ rfl rfl
      | exact s.at_ 4 rfl
      | exact s.still 5 _ rfl rfl
      | exact s.at_ 5 rfl
      | refine s.ld0 0 rfl rfl ?_
      | refine s.ldi 0 _ rfl rfl ?_
      | refine s.lds 0 _ rfl rfl ?_
      | refine s.ldp 0 _ rfl rfl ?_
      | refine s.ldm 0 _ rfl rfl ?_
      | refine s.ldb 0 _ rfl rfl ?_
      | refine s.ld 0 _ rfl rfl ?_
      | (refine s.st0 0 rfl rfl rfl ?_; intro w s)
      | (refine s.st 0 _ rfl rfl rfl ?_; intro w s)
      | refine s.ld0 1 rfl rfl ?_
      | refine s.ldi 1 _ rfl rfl ?_
      | refine s.lds 1 _ rfl rfl ?_
      | refine s.ldp 1 _ rfl rfl ?_
      | refine s.ldm 1 _ rfl rfl ?_
      | refine s.ldb 1 _ rfl rfl ?_
      | refine s.ld 1 _ rfl rfl ?_
      | (refine s.st0 1 rfl rfl rfl ?_; intro w s)
      | (refine s.st 1 _ rfl rfl rfl ?_; intro w s)
      | refine s.ld0 2 rfl rfl ?_
      | refine s.ldi 2 _ rfl rfl ?_
      | refine s.lds 2 _ rfl rfl ?_
      | refine s.ldp 2 _ rfl rfl ?_
      | refine s.ldm 2 _ rfl rfl ?_
      | refine s.ldb 2 _ rfl rfl ?_
      | refine s.ld 2 _ rfl rfl ?_
      | (refine s.st0 2 rfl rfl rfl ?_; intro w s)
      | (refine s.st 2 _ rfl rfl rfl ?_; intro w s)
      | refine s.ld0 3 rfl rfl ?_
      | refine s.ldi 3 _ rfl rfl ?_
      | refine s.lds 3 _ rfl rfl ?_
      | refine s.ldp 3 _ rfl rfl ?_
      | refine s.ldm 3 _ rfl rfl ?_
      | refine s.ldb 3 _ rfl rfl ?_
      | refine s.ld 3 _ rfl rfl ?_
      | (refine s.st0 3 rfl rfl rfl ?_; intro w s)
      | (refine s.st 3 _ rfl rfl rfl ?_; intro w s)
      | refine s.ld0 4 rfl rfl ?_
      | refine s.ldi 4 _ rfl rfl ?_
      | refine s.lds 4 _ rfl rfl ?_
      | refine s.ldp 4 _ rfl rfl ?_
      | refine s.ldm 4 _ rfl rfl ?_
      | refine s.ldb 4 _ rfl rfl ?_
      | refine s.ld 4 _ rfl rfl ?_
      | (refine s.st0 4 rfl rfl rfl ?_; intro w s)
      | (refine s.st 4 _ rfl rfl rfl ?_; intro w s)
      | refine s.ld0 5 rfl rfl ?_
      | refine s.ldi 5 _ rfl rfl ?_
      | refine s.lds 5 _ rfl rfl ?_
      | refine s.ldp 5 _ rfl rfl ?_
      | refine s.ldm 5 _ rfl rfl ?_
      | refine s.ldb 5 _ rfl rfl ?_
      | refine s.ld 5 _ rfl rfl ?_
      | (refine s.st0 5 rfl rfl rfl ?_; intro w s)
      | (refine s.st 5 _ rfl rfl rfl ?_; intro w s)
      | refine arith_i64 (by omega) (by omega) ?_)
    exact h _ _ ((s.drop 2).dup j hj rfl)
  have bl := of_decide_eq_true hkl
  have br := of_decide_eq_true hkr
  obtain ⟨wl, dl0, dl1, pl⟩ := g.at_ bl.1 bl.2
  obtain ⟨wr, dr0, dr1, pr⟩ := g.at_ br.1 br.2
  have wll := wl.len
  have wrl := wr.len
  repeat (first
    | (refine s.allocK ?_; intro b w s)
    | (refine s.drawK ?_; intro w s)
    | refine ⟨by decide, ?_⟩
    | refine letZ_mk ?_
    | refine nonNil_some ?_
    | refine gd_t rfl ?_
    | refine gd_f rfl ?_
    | refine nilIfc_nil ?_
    | refine nilIfc_err ?_
    | exact s.still 0 _ rfl rfl
    | exact s.at_ 0 rfl
    | exact s.still 1 _ rfl rfl
    | exact s.at_ 1 rfl
    | exact s.still 2 _ rfl rfl
    | exact s.at_ 2 rfl
    | exact s.still 3 _ rfl rfl
    | exact s.at_ 3 rfl
    | exact s.still 4 _ rfl rfl
    | exact s.at_ 4 rfl
    | exact s.still 5 _ rfl rfl
    | exact s.at_ 5 rfl
    | refine s.ld0 0 rfl rfl ?_
    | refine s.ldi 0 _ rfl rfl ?_
    | refine s.lds 0 _ rfl rfl ?_
    | refine s.ldp 0 _ rfl rfl ?_
    | refine s.ldm 0 _ rfl rfl ?_
    | refine s.ldb 0 _ rfl rfl ?_
    | refine s.ld 0 _ rfl rfl ?_
    | (refine s.st0 0 rfl rfl rfl ?_; intro w s)
    | (refine s.st 0 _ rfl rfl rfl ?_; intro w s)
    | refine s.ld0 1 rfl rfl ?_
    | refine s.ldi 1 _ rfl rfl ?_
    | refine s.lds 1 _ rfl rfl ?_
    | refine s.ldp 1 _ rfl rfl ?_
    | refine s.ldm 1 _ rfl rfl ?_
    | refine s.ldb 1 _ rfl rfl ?_
    | refine s.ld 1 _ rfl rfl ?_
    | (refine s.st0 1 rfl rfl rfl ?_; intro w s)
    | (refine s.st 1 _ rfl rfl rfl ?_; intro w s)
    | refine s.ld0 2 rfl rfl ?_
    | refine s.ldi 2 _ rfl rfl ?_
    | refine s.lds 2 _ rfl rfl ?_
    | refine s.ldp 2 _ rfl rfl ?_
    | refine s.ldm 2 _ rfl rfl ?_
    | refine s.ldb 2 _ rfl rfl ?_
    | refine s.ld 2 _ rfl rfl ?_
    | (refine s.st0 2 rfl rfl rfl ?_; intro w s)
    | (refine s.st 2 _ rfl rfl rfl ?_; intro w s)
    | refine s.ld0 3 rfl rfl ?_
    | refine s.ldi 3 _ rfl rfl ?_
    | refine s.lds 3 _ rfl rfl ?_
    | refine s.ldp 3 _ rfl rfl ?_
    | refine s.ldm 3 _ rfl rfl ?_
    | refine s.ldb 3 _ rfl rfl ?_
    | refine s.ld 3 _ rfl rfl ?_
    | (refine s.st0 3 rfl rfl rfl ?_; intro w s)
    | (refine s.st 3 _ rfl rfl rfl ?_; intro w s)
    | refine s.ld0 4 rfl rfl ?_
    | refine s.ldi 4 _ rfl rfl ?_
    | refine s.lds 4 _ rfl rfl ?_
    | refine s.ldp 4 _ rfl rfl ?_
    | refine s.ldm 4 _ rfl rfl ?_
    | refine s.ldb 4 _ rfl rfl ?_
    | refine s.ld 4 _ rfl rfl ?_
    | (refine s.st0 4 rfl rfl rfl ?_; intro w s)
    | (refine s.st 4 _ rfl rfl rfl ?_; intro w s)
    | refine s.ld0 5 rfl rfl ?_
    | refine s.ldi 5 _ rfl rfl ?_
    | refine s.lds 5 _ rfl rfl ?_
    | refine s.ldp 5 _ rfl rfl ?_
    | refine s.ldm 5 _ rfl rfl ?_
    | refine s.ldb 5 _ rfl rfl ?_
    | refine s.ld 5 _ rfl rfl ?_
    | (refine s.st0 5 rfl rfl rfl ?_; intro w s)
    | (refine s.st 5 _ rfl rfl rfl ?_; intro w s)
    | refine arith_i64 (by omega) (by omega) ?_)
  refine ref10_Length_spec s (j + 2) hj hkl hl fun w5 s => ⟨s.at_ 1 rfl, ref10_Length_spec s (j + 2) hj hkr hl fun w6 s => ?_⟩
  refine arith_i64 (by omega) (by omega) (gd_dec (fun hgt => ?_) (fun hle => ?_))
  · have hp : pPair T most l r = (T, (0, errV 2)) := by unfold pPair; rw [if_neg hu, if_neg hl0, if_neg hr0, if_pos hgt]
    rw [hp] at h
    repeat (first
      | (refine s.allocK ?_; intro b w s)
      | (refine s.drawK ?_; intro w s)
      | refine ⟨by decide, ?_⟩
      | refine letZ_mk ?_
      | refine nonNil_some ?_
      | refine gd_t rfl ?_
      | refine gd_f rfl ?_
      | refine nilIfc_nil ?_
      | refine nilIfc_err ?_
      | exact s.still 0 _ rfl rfl
      | exact s.at_ 0 rfl
      | exact s.still 1 _ rfl rfl
      | exact s.at_ 1 rfl
      | exact s.still 2 _ rfl rfl
      | exact s.at_ 2 rfl
      | exact s.still 3 _ rfl rfl
      | exact s.at_ 3 rfl
      | exact s.still 4 _ rfl rfl
      | exact s.at_ 4 rfl
      | exact s.still 5 _ rfl rfl
      | exact s.at_ 5 rfl
      | refine s.ld0 0 rfl rfl ?_
      | refine s.ldi 0 _ rfl rfl ?_
      | refine s.lds 0 _ rfl rfl ?_
      | refine s.ldp 0 _ rfl rfl ?_
      | refine s.ldm 0 _ rfl rfl ?_
      | refine s.ldb 0 _ rfl rfl ?_
      | refine s.ld 0 _ rfl rfl ?_
      | (refine s.st0 0 rfl rfl rfl ?_; intro w s)
      | (refine s.st 0 _ rfl rfl rfl ?_; intro w s)
      | refine s.ld0 1 rfl rfl ?_
      | refine s.ldi 1 _ rfl rfl ?_
      | refine s.lds 1 _ rfl rfl ?_
      | refine s.ldp 1 _ rfl rfl ?_
      | refine s.ldm 1 _ rfl rfl ?_
      | refine s.ldb 1 _ rfl rfl ?_
      | refine s.ld 1 _ rfl rfl ?_
      | (refine s.st0 1 rfl rfl rfl ?_; intro w s)
      | (refine s.st 1 _ rfl rfl rfl ?_; intro w s)
      | refine s.ld0 2 rfl rfl ?_
      | refine s.ldi 2 _ rfl rfl ?_
      | refine s.lds 2 _ rfl rfl ?_
      | refine s.ldp 2 _ rfl rfl ?_
      | refine s.ldm 2 _ rfl rfl ?_
      | refine s.ldb 2 _ rfl rfl ?_
      | refine s.ld 2 _ rfl rfl ?_
      | (refine s.st0 2 rfl rfl rfl ?_; intro w s)
      | (refine s.st 2 _ rfl rfl rfl ?_; intro w s)
      | refine s.ld0 3 rfl rfl ?_
      | refine s.ldi 3 _ rfl rfl ?_
      | refine s.lds 3 _ rfl rfl ?_
      | refine s.ldp 3 _ rfl rfl ?_
      | refine s.ldm 3 _ rfl rfl ?_
      | refine s.ldb 3 _ rfl rfl ?_
      | refine s.ld 3 _ rfl rfl ?_
      | (refine s.st0 3 rfl rfl rfl ?_; intro w s)
      | (refine s.st 3 _ rfl rfl rfl ?_; intro w s)
      | refine s.ld0 4 rfl rfl ?_
      | refine s.ldi 4 _ rfl rfl ?_
      | refine s.lds 4 _ rfl rfl ?_
      | refine s.ldp 4 _ rfl rfl ?_
      | refine s.ldm 4 _ rfl rfl ?_
      | refine s.ldb 4 _ rfl rfl ?_
      | refine s.ld 4 _ rfl rfl ?_
      | (refine s.st0 4 rfl rfl rfl ?_; intro w s)
      | (refine s.st 4 _ rfl rfl rfl ?_; intro w s)
      | refine s.ld0 5 rfl rfl ?_
      | refine s.ldi 5 _ rfl rfl ?_
      | refine s.lds 5 _ rfl rfl ?_
      | refine s.ldp 5 _ rfl rfl ?_
      | refine s.ldm 5 _ rfl rfl ?_
      | refine s.ldb 5 _ rfl rfl ?_
      | refine s.ld 5 _ rfl rfl ?_
      | (refine s.st0 5 rfl rfl rfl ?_; intro w s)
      | (refine s.st 5 _ rfl rfl rfl ?_; intro w s)
      | refine arith_i64 (by omega) (by omega) ?_)
    exact h _ _ ((s.drop 2).dup j hj rfl)
  have hp : pPair T most l r = pAdd T most (mkPair T l r) := by unfold pPair; rw [if_neg hu, if_neg hl0, if_neg hr0, if_neg (by omega)]
  rw [hp] at h
  repeat (first
    | (refine s.allocK ?_; intro b w s)
    | (refine s.drawK ?_; intro w s)
    | refine ⟨by decide, ?_⟩
    | refine letZ_mk ?_
    | refine nonNil_some ?_
    | refine gd_t rfl ?_
    | refine gd_f rfl ?_
    | refine nilIfc_nil ?_
    | refine nilIfc_err ?_
    | exact s.still 0 _ rfl rfl
    | exact s.at_ 0 rfl
    | exact s.still 1 _ rfl rfl
    | exact s.at_ 1 rfl
    | exact s.still 2 _ rfl rfl
    | exact s.at_ 2 rfl
    | exact s.still 3 _ rfl rfl
    | exact s.at_ 3 rfl
    | exact s.still 4 _ rfl rfl
    | exact s.at_ 4 rfl
    | exact s.still 5 _ rfl rfl
    | exact s.at_ 5 rfl
    | refine s.ld0 0 rfl rfl ?_
    | refine s.ldi 0 _ rfl rfl ?_
    | refine s.lds 0 _ rfl rfl ?_
    | refine s.ldp 0 _ rfl rfl ?_
    | refine s.ldm 0 _ rfl rfl ?_
    | refine s.ldb 0 _ rfl rfl ?_
    | refine s.ld 0 _ rfl rfl ?_
    | (refine s.st0 0 rfl rfl rfl ?_; intro w s)
    | (refine s.st 0 _ rfl rfl rfl ?_; intro w s)
    | refine s.ld0 1 rfl rfl ?_
    | refine s.ldi 1 _ rfl rfl ?_
    | refine s.lds 1 _ rfl rfl ?_
    | refine s.ldp 1 _ rfl rfl ?_
    | refine s.ldm 1 _ rfl rfl ?_
    | refine s.ldb 1 _ rfl rfl ?_
    | refine s.ld 1 _ rfl rfl ?_
    | (refine s.st0 1 rfl rfl rfl ?_; intro w s)
    | (refine s.st 1 _ rfl rfl rfl ?_; intro w s)
    | refine s.ld0 2 rfl rfl ?_
    | refine s.ldi 2 _ rfl rfl ?_
    | refine s.lds 2 _ rfl rfl ?_
    | refine s.ldp 2 _ rfl rfl ?_
    | refine s.ldm 2 _ rfl rfl ?_
    | refine s.ldb 2 _ rfl rfl ?_
    | refine s.ld 2 _ rfl rfl ?_
    | (refine s.st0 2 rfl rfl rfl ?_; intro w s)
    | (refine s.st 2 _ rfl rfl rfl ?_; intro w s)
    | refine s.ld0 3 rfl rfl ?_
    | refine s.ldi 3 _ rfl rfl ?_
    | refine s.lds 3 _ rfl rfl ?_
    | refine s.ldp 3 _ rfl rfl ?_
    | refine s.ldm 3 _ rfl rfl ?_
    | refine s.ldb 3 _ rfl rfl ?_
    | refine s.ld 3 _ rfl rfl ?_
    | (refine s.st0 3 rfl rfl rfl ?_; intro w s)
    | (refine s.st 3 _ rfl rfl rfl ?_; intro w s)
    | refine s.ld0 4 rfl rfl ?_
    | refine s.ldi 4 _ rfl rfl ?_
    | refine s.lds 4 _ rfl rfl ?_
    | refine s.ldp 4 _ rfl rfl ?_
    | refine s.ldm 4 _ rfl rfl ?_
    | refine s.ldb 4 _ rfl rfl ?_
    | refine s.ld 4 _ rfl rfl ?_
    | (refine s.st0 4 rfl rfl rfl ?_; intro w s)
    | (refine s.st 4 _ rfl rfl rfl ?_; intro w s)
    | refine s.ld0 5 rfl rfl ?_
    | refine s.ldi 5 _ rfl rfl ?_
    | refine s.lds 5 _ rfl rfl ?_
    | refine s.ldp 5 _ rfl rfl ?_
    | refine s.ldm 5 _ rfl rfl ?_
    | refine s.ldb 5 _ rfl rfl ?_
    | refine s.ld 5 _ rfl rfl ?_
    | (refine s.st0 5 rfl rfl rfl ?_; intro w s)
    | (refine s.st 5 _ rfl rfl rfl ?_; intro w s)
    | refine arith_i64 (by omega) (by omega) ?_)
  refine ref10_Depth_spec s (j + 2) hj hkl hl fun w5 s => ⟨s.at_ 1 rfl, s.at_ 1 rfl, ref10_Depth_spec s (j + 2) hj hkr hl fun w6 s => ⟨s.at_ 1 rfl, arith_i64 (by split <;> omega) (by split <;> omega) ?_⟩⟩
  refine ref10_intern_spec (e := mkPair T l r) ⟨rfl, rfl, rfl⟩ s (j + 2) hj hl fun m' w3 s => s.st0 1 rfl rfl rfl fun w4 s => s.ld0 1 rfl rfl ?_
  exact h _ _ (s.pick [0] 3 rfl (by decide))
theorem ref10_Power_spec {x k : Int} (g : Grow T) (s : Sp w0 Ω w) (j : Nat) (hj : Ω[j]? = some (rfs m most T)) (hl : T.length ≤ 1048576) (hk9 : k ≤ 9223372036854775807) {K : yevergreenref10_S.T × Int × Int → World → Prop}
    (h : ∀ m' w', Sp w0 (rfs m' most (pPower T most x k).1 :: Ω) w' → K (m', (pPower T most x k).2.1, codeOf (pPower T most x k).2.2) w') : C_ref10_Power m x k K w := by
  apply S_ref10_Power
  unfold F_ref10_Power
  refine s.allocK fun a1 w1 s => s.allocK fun a2 w2 s => ⟨fun y w => y.1 = decide (known T x = false ∨ k < 0) ∧ Sp w0 (cel a2 [.int .i64 (0 : Int), .slice none 0 0, .slice none 0 0, .slice none 0 0] :: cel a1 (cells yevergreenref10_S m) :: Ω) w, ?_, ?_⟩
  · refine s.ld0 1 rfl rfl (ref10_Unknown_spec s (j + 2) hj fun w3 s => gd_mk (fun e => ⟨?_, s⟩) (fun e => ⟨?_, s⟩))
    · have : known T x = false := by simpa using e
      rw [this]; simp
    · have : known T x = true := by simpa using e
      rw [this]; simp
  rintro ⟨y, _⟩ w3 ⟨hy, s⟩ _
  dsimp only at hy
  by_cases hu : known T x = false ∨ k < 0
  · have hp : pPower T most x k = (T, (0, errV 1)) := by unfold pPower; rw [if_pos hu]
    rw [hp] at h
    refine gd_t (by rw [hy]; exact decide_eq_true hu) ?_
    repeat (first
      | (refine s.allocK ?_; intro b w s)
      | (refine s.drawK ?_; intro w s)
      | refine ⟨by decide, ?_⟩
      | refine letZ_mk ?_
      | refine nonNil_some ?_
      | refine gd_t rfl ?_
      | refine gd_f rfl ?_
      | refine nilIfc_nil ?_
      | refine nilIfc_err ?_
      | exact s.still 0 _ rfl rfl
      | exact s.at_ 0 rfl
      | exact s.still 1 _ rfl rfl
      | exact s.at_ 1 rfl
      | exact s.still 2 _ rfl rfl
      | exact s.at_ 2 rfl
      | exact s.still 3 _ rfl rfl
      | exact s.at_ 3 rfl
      | exact s.still 4 _ rfl rfl
      | exact s.at_ 4 rfl
      | exact s.still 5 _ rfl rfl
      | exact s.at_ 5 rfl
      | refine s.ld0 0 rfl rfl ?_
      | refine s.ldi 0 _ rfl rfl ?_
      | refine s.lds 0 _ rfl rfl ?_
      | refine s.ldp 0 _ rfl rfl ?_
      | refine s.ldm 0 _ rfl rfl ?_
      | refine s.ldb 0 _ rfl rfl ?_
      | refine s.ld 0 _ rfl rfl ?_
      | (refine s.st0 0 rfl rfl rfl ?_; intro w s)
      | (refine s.st 0 _ rfl rfl rfl ?_; intro w s)
      | refine s.ld0 1 rfl rfl ?_
      | refine s.ldi 1 _ rfl rfl ?_
      | refine s.lds 1 _ rfl rfl ?_
      | refine s.ldp 1 _ rfl rfl ?_
      | refine s.ldm 1 _ rfl rfl ?_
      | refine s.ldb 1 _ rfl rfl ?_
      | refine s.ld 1 _ rfl rfl ?_
      | (refine s.st0 1 rfl rfl rfl ?_; intro w s)
      | (refine s.st 1 _ rfl rfl rfl ?_; intro w s)
      | refine s.ld0 2 rfl rfl ?_
      | refine s.ldi 2 _ rfl rfl ?_
      | refine s.lds 2 _ rfl rfl ?_
      | refine s.ldp 2 _ rfl rfl ?_
      | refine s.ldm 2 _ rfl rfl ?_
      | refine s.ldb 2 _ rfl rfl ?_
      | refine s.ld 2 _ rfl rfl ?_
      | (refine s.st0 2 rfl rfl rfl ?_; intro w s)
      | (refine s.st 2 _ rfl rfl rfl ?_; intro w s)
      | refine s.ld0 3 rfl rfl ?_
      | refine s.ldi 3 _ rfl rfl ?_
      | refine s.lds 3 _ rfl rfl ?_
      | refine s.ldp 3 _ rfl rfl ?_
      | refine s.ldm 3 _ rfl rfl ?_
      | refine s.ldb 3 _ rfl rfl ?_
      | refine s.ld 3 _ rfl rfl ?_
      | (refine s.st0 3 rfl rfl rfl ?_; intro w s)
      | (refine s.st 3 _ rfl rfl rfl ?_; intro w s)
      | refine s.ld0 4 rfl rfl ?_
      | refine s.ldi 4 _ rfl rfl ?_
      | refine s.lds 4 _ rfl rfl ?_
      | refine s.ldp 4 _ rfl rfl ?_
      | refine s.ldm 4 _ rfl rfl ?_
      | refine s.ldb 4 _ rfl rfl ?_
      | refine s.ld 4 _ rfl rfl ?_
      | (refine s.st0 4 rfl rfl rfl ?_; intro w s)
      | (refine s.st 4 _ rfl rfl rfl ?_; intro w s)
      | refine s.ld0 5 rfl rfl ?_
      | refine s.ldi 5 _ rfl rfl ?_
      | refine s.lds 5 _ rfl rfl ?_
      | refine s.ldp 5 _ rfl rfl ?_
      | refine s.ldm 5 _ rfl rfl ?_
      | refine s.ldb 5 _ rfl rfl ?_
      | refine s.ld 5 _ rfl rfl ?_
      | (refine s.st0 5 rfl rfl rfl ?_; intro w s)
      | (refine s.st 5 _ rfl rfl rfl ?_; intro w s)
      | refine arith_i64 (by omega) (by omega) ?_)
    exact h _ _ ((s.drop 2).dup j hj rfl)
  have hkx : known T x = true := by
    cases e : known T x
    · exact absurd (Or.inl e) hu
    · rfl
  have bx := of_decide_eq_true hkx
  have hk0 : 0 ≤ k := by
    rcases Int.lt_or_le k 0 with h | h
    · exact absurd (Or.inr h) hu
    · exact h
  refine gd_f (by rw [hy]; exact decide_eq_false hu) ⟨fun y v => y.1 = decide (k = 0 ∨ x = 0) ∧ v = w3, ?_, ?_⟩
  · exact gd_eq (fun e => ⟨by simp [e], rfl⟩) (fun e => ⟨by simp only [e, false_or]; rfl, rfl⟩)
  rintro ⟨y, _⟩ v ⟨hy, rfl⟩ _
  dsimp only at hy
  by_cases hz : k = 0 ∨ x = 0
  · have hp : pPower T most x k = (T, (0, .nilIface)) := by unfold pPower; rw [if_neg hu, if_pos hz]
    rw [hp] at h
    refine gd_t (by rw [hy]; exact decide_eq_true hz) ?_
    repeat (first
      | (refine s.allocK ?_; intro b w s)
      | (refine s.drawK ?_; intro w s)
      | refine ⟨by decide, ?_⟩
      | refine letZ_mk ?_
      | refine nonNil_some ?_
      | refine gd_t rfl ?_
      | refine gd_f rfl ?_
      | refine nilIfc_nil ?_
      | refine nilIfc_err ?_
      | exact s.still 0 _ rfl rfl
      | exact s.at_ 0 rfl
      | exact s.still 1 _ rfl rfl
      | exact s.at_ 1 rfl
      | exact s.still 2 _ rfl rfl
      | exact s.at_ 2 rfl
      | exact s.still 3 _ rfl rfl
      | exact s.at_ 3 rfl
      | exact s.still 4 _ rfl rfl
      | exact s.at_ 4 rfl
      | exact s.still 5 _ rfl rfl
      | exact s.at_ 5 rfl
      | refine s.ld0 0 rfl rfl ?_
      | refine s.ldi 0 _ rfl rfl ?_
      | refine s.lds 0 _ rfl rfl ?_
      | refine s.ldp 0 _ rfl rfl ?_
      | refine s.ldm 0 _ rfl rfl ?_
      | refine s.ldb 0 _ rfl rfl ?_
      | refine s.ld 0 _ rfl rfl ?_
      | (refine s.st0 0 rfl rfl rfl ?_; intro w s)
      | (refine s.st 0 _ rfl rfl rfl ?_; intro w s)
      | refine s.ld0 1 rfl rfl ?_
      | refine s.ldi 1 _ rfl rfl ?_
      | refine s.lds 1 _ rfl rfl ?_
      | refine s.ldp 1 _ rfl rfl ?_
      | refine s.ldm 1 _ rfl rfl ?_
      | refine s.ldb 1 _ rfl rfl ?_
      | refine s.ld 1 _ rfl rfl ?_
      | (refine s.st0 1 rfl rfl rfl ?_; intro w s)
      | (refine s.st 1 _ rfl rfl rfl ?_; intro w s)
      | refine s.ld0 2 rfl rfl ?_
      | refine s.ldi 2 _ rfl rfl ?_
      | refine s.lds 2 _ rfl rfl ?_
      | refine s.ldp 2 _ rfl rfl ?_
      | refine s.ldm 2 _ rfl rfl ?_
      | refine s.ldb 2 _ rfl rfl ?_
      | refine s.ld 2 _ rfl rfl ?_
      | (refine s.st0 2 rfl rfl rfl ?_; intro w s)
      | (refine s.st 2 _ rfl rfl rfl ?_; intro w s)
      | refine s.ld0 3 rfl rfl ?_
      | refine s.ldi 3 _ rfl rfl ?_
      | refine s.lds 3 _ rfl rfl ?_
      | refine s.ldp 3 _ rfl rfl ?_
      | refine s.ldm 3 _ rfl rfl ?_
      | refine s.ldb 3 _ rfl rfl ?_
      | refine s.ld 3 _ rfl rfl ?_
      | (refine s.st0 3 rfl rfl rfl ?_; intro w s)
      | (refine s.st 3 _ rfl rfl rfl ?_; intro w s)
      | refine s.ld0 4 rfl rfl ?_
      | refine s.ldi 4 _ rfl rfl ?_
      | refine s.lds 4 _ rfl rfl ?_
      | refine s.ldp 4 _ rfl rfl ?_
      | refine s.ldm 4 _ rfl rfl ?_
      | refine s.ldb 4 _ rfl rfl ?_
      | refine s.ld 4 _ rfl rfl ?_
      | (refine s.st0 4 rfl rfl rfl ?_; intro w s)
      | (refine s.st 4 _ rfl rfl rfl ?_; intro w s)
      | refine s.ld0 5 rfl rfl ?_
      | refine s.ldi 5 _ rfl rfl ?_
      | refine s.lds 5 _ rfl rfl ?_
      | refine s.ldp 5 _ rfl rfl ?_
      | refine s.ldm 5 _ rfl rfl ?_
      | refine s.ldb 5 _ rfl rfl ?_
      | refine s.ld 5 _ rfl rfl ?_
      | (refine s.st0 5 rfl rfl rfl ?_; intro w s)
      | (refine s.st 5 _ rfl rfl rfl ?_; intro w s)
      | refine arith_i64 (by omega) (by omega) ?_)
    exact h _ _ ((s.drop 2).dup j hj rfl)
  refine gd_f (by rw [hy]; exact decide_eq_false hz) (gd_eq (fun h1 => ?_) (fun h1 => ?_))
  · have hp : pPower T most x k = (T, (x, .nilIface)) := by unfold pPower; rw [if_neg hu, if_neg hz, if_pos h1]
    rw [hp] at h
    repeat (first
      | (refine s.allocK ?_; intro b w s)
      | (refine s.drawK ?_; intro w s)
      | refine ⟨by decide, ?_⟩
      | refine letZ_mk ?_
      | refine nonNil_some ?_
      | refine gd_t rfl ?_
      | refine gd_f rfl ?_
      | refine nilIfc_nil ?_
      | refine nilIfc_err ?_
      | exact s.still 0 _ rfl rfl
      | exact s.at_ 0 rfl
      | exact s.still 1 _ rfl rfl
      | exact s.at_ 1 rfl
      | exact s.still 2 _ rfl rfl
      | exact s.at_ 2 rfl
      | exact s.still 3 _ rfl rfl
      | exact s.at_ 3 rfl
      | exact s.still 4 _ rfl rfl
      | exact s.at_ 4 rfl
      | exact s.still 5 _ rfl rfl
      | exact s.at_ 5 rfl
      | refine s.ld0 0 rfl rfl ?_
      | refine s.ldi 0 _ rfl rfl ?_
      | refine s.lds 0 _ rfl rfl ?_
      | refine s.ldp 0 _ rfl rfl ?_
      | refine s.ldm 0 _ rfl rfl ?_
      | refine s.ldb 0 _ rfl rfl ?_
      | refine s.ld 0 _ rfl rfl ?_
      | (refine s.st0 0 rfl rfl rfl ?_; intro w s)
      | (refine s.st 0 _ rfl rfl rfl ?_; intro w s)
      | refine s.ld0 1 rfl rfl ?_
      | refine s.ldi 1 _ rfl rfl ?_
      | refine s.lds 1 _ rfl rfl ?_
      | refine s.ldp 1 _ rfl rfl ?_
      | refine s.ldm 1 _ rfl rfl ?_
      | refine s.ldb 1 _ rfl rfl ?_
      | refine s.ld 1 _ rfl rfl ?_
      | (refine s.st0 1 rfl rfl rfl ?_; intro w s)
      | (refine s.st 1 _ rfl rfl rfl ?_; intro w s)
      | refine s.ld0 2 rfl rfl ?_
      | refine s.ldi 2 _ rfl rfl ?_
      | refine s.lds 2 _ rfl rfl ?_
      | refine s.ldp 2 _ rfl rfl ?_
      | refine s.ldm 2 _ rfl rfl ?_
      | refine s.ldb 2 _ rfl rfl ?_
      | refine s.ld 2 _ rfl rfl ?_
      | (refine s.st0 2 rfl rfl rfl ?_; intro w s)
      | (refine s.st 2 _ rfl rfl rfl ?_; intro w s)
      | refine s.ld0 3 rfl rfl ?_
      | refine s.ldi 3 _ rfl rfl ?_
      | refine s.lds 3 _ rfl rfl ?_
      | refine s.ldp 3 _ rfl rfl ?_
      | refine s.ldm 3 _ rfl rfl ?_
      | refine s.ldb 3 _ rfl rfl ?_
      | refine s.ld 3 _ rfl rfl ?_
      | (refine s.st0 3 rfl rfl rfl ?_; intro w s)
      | (refine s.st 3 _ rfl rfl rfl ?_; intro w s)
      | refine s.ld0 4 rfl rfl ?_
      | refine s.ldi 4 _ rfl rfl ?_
      | refine s.lds 4 _ rfl rfl ?_
      | refine s.ldp 4 _ rfl rfl ?_
      | refine s.ldm 4 _ rfl rfl ?_
      | refine s.ldb 4 _ rfl rfl ?_
      | refine s.ld 4 _ rfl rfl ?_
      | (refine s.st0 4 rfl rfl rfl ?_; intro w s)
      | (refine s.st 4 _ rfl rfl rfl ?_; intro w s)
      | refine s.ld0 5 rfl rfl ?_
      | refine s.ldi 5 _ rfl rfl ?_
      | refine s.lds 5 _ rfl rfl ?_
      | refine s.ldp 5 _ rfl rfl ?_
      | refine s.ldm 5 _ rfl rfl ?_
      | refine s.ldb 5 _ rfl rfl ?_
      | refine s.ld 5 _ rfl rfl ?_
      | (refine s.st0 5 rfl rfl rfl ?_; intro w s)
      | (refine s.st 5 _ rfl rfl rfl ?_; intro w s)
      | refine arith_i64 (by omega) (by omega) ?_)
    exact h _ _ ((s.drop 2).dup j hj rfl)
  obtain ⟨wx, dx0, dx1, px⟩ := g.at_ bx.1 bx.2
  have px' := px (by omega)
  have wxl := wx.len
  have hd : Int.tdiv 1152921504606846976 (eAt T x).2.1.1 = 1152921504606846976 / (eAt T x).2.1.1 := Int.tdiv_eq_ediv_of_nonneg (by decide)
  have hb : 0 ≤ 1152921504606846976 / (eAt T x).2.1.1 ∧ 1152921504606846976 / (eAt T x).2.1.1 ≤ 1152921504606846976 := ⟨Int.ediv_nonneg (by decide) (by omega), Int.ediv_le_self _ (by decide)⟩
  have hiff : 1152921504606846976 / (eAt T x).2.1.1 < k ↔ 1152921504606846976 < (eAt T x).2.1.1 * k := by
    rw [Int.mul_comm]; exact Int.ediv_lt_iff_lt_mul (by omega)
  refine s.ld0 1 rfl rfl (ref10_Length_spec s (j + 2) hj hkx hl fun w5 s => ⟨by omega, ?_⟩)
  rw [hd]
  refine arith_i64 (by omega) (by omega) (gd_dec (fun hgt => ?_) (fun hle => ?_))
  · have hp : pPower T most x k = (T, (0, errV 2)) := by unfold pPower; rw [if_neg hu, if_neg hz, if_neg h1, if_pos (hiff.1 hgt)]
    rw [hp] at h
    repeat (first
      | (refine s.allocK ?_; intro b w s)
      | (refine s.drawK ?_; intro w s)
      | refine ⟨by decide, ?_⟩
      | refine letZ_mk ?_
      | refine nonNil_some ?_
      | refine gd_t rfl ?_
      | refine gd_f rfl ?_
      | refine nilIfc_nil ?_
      | refine nilIfc_err ?_
      | exact s.still 0 _ rfl rfl
      | exact s.at_ 0 rfl
      | exact s.still 1 _ rfl rfl
      | exact s.at_ 1 rfl
      | exact s.still 2 _ rfl rfl
      | exact s.at_ 2 rfl
      | exact s.still 3 _ rfl rfl
      | exact s.at_ 3 rfl
      | exact s.still 4 _ rfl rfl
      | exact s.at_ 4 rfl
      | exact s.still 5 _ rfl rfl
      | exact s.at_ 5 rfl
      | refine s.ld0 0 rfl rfl ?_
      | refine s.ldi 0 _ rfl rfl ?_
      | refine s.lds 0 _ rfl rfl ?_
      | refine s.ldp 0 _ rfl rfl ?_
      | refine s.ldm 0 _ rfl rfl ?_
      | refine s.ldb 0 _ rfl rfl ?_
      | refine s.ld 0 _ rfl rfl ?_
      | (refine s.st0 0 rfl rfl rfl ?_; intro w s)
      | (refine s.st 0 _ rfl rfl rfl ?_; intro w s)
      | refine s.ld0 1 rfl rfl ?_
      | refine s.ldi 1 _ rfl rfl ?_
      | refine s.lds 1 _ rfl rfl ?_
      | refine s.ldp 1 _ rfl rfl ?_
      | refine s.ldm 1 _ rfl rfl ?_
      | refine s.ldb 1 _ rfl rfl ?_
      | refine s.ld 1 _ rfl rfl ?_
      | (refine s.st0 1 rfl rfl rfl ?_; intro w s)
      | (refine s.st 1 _ rfl rfl rfl ?_; intro w s)
      | refine s.ld0 2 rfl rfl ?_
      | refine s.ldi 2 _ rfl rfl ?_
      | refine s.lds 2 _ rfl rfl ?_
      | refine s.ldp 2 _ rfl rfl ?_
      | refine s.ldm 2 _ rfl rfl ?_
      | refine s.ldb 2 _ rfl rfl ?_
      | refine s.ld 2 _ rfl rfl ?_
      | (refine s.st0 2 rfl rfl rfl ?_; intro w s)
      | (refine s.st 2 _ rfl rfl rfl ?_; intro w s)
      | refine s.ld0 3 rfl rfl ?_
      | refine s.ldi 3 _ rfl rfl ?_
      | refine s.lds 3 _ rfl rfl ?_
      | refine s.ldp 3 _ rfl rfl ?_
      | refine s.ldm 3 _ rfl rfl ?_
      | refine s.ldb 3 _ rfl rfl ?_
      | refine s.ld 3 _ rfl rfl ?_
      | (refine s.st0 3 rfl rfl rfl ?_; intro w s)
      | (refine s.st 3 _ rfl rfl rfl ?_; intro w s)
      | refine s.ld0 4 rfl rfl ?_
      | refine s.ldi 4 _ rfl rfl ?_
      | refine s.lds 4 _ rfl rfl ?_
      | refine s.ldp 4 _ rfl rfl ?_
      | refine s.ldm 4 _ rfl rfl ?_
      | refine s.ldb 4 _ rfl rfl ?_
      | refine s.ld 4 _ rfl rfl ?_
      | (refine s.st0 4 rfl rfl rfl ?_; intro w s)
      | (refine s.st 4 _ rfl rfl rfl ?_; intro w s)
      | refine s.ld0 5 rfl rfl ?_
      | refine s.ldi 5 _ rfl rfl ?_
      | refine s.lds 5 _ rfl rfl ?_
      | refine s.ldp 5 _ rfl rfl ?_
      | refine s.ldm 5 _ rfl rfl ?_
      | refine s.ldb 5 _ rfl rfl ?_
      | refine s.ld 5 _ rfl rfl ?_
      | (refine s.st0 5 rfl rfl rfl ?_; intro w s)
      | (refine s.st 5 _ rfl rfl rfl ?_; intro w s)
      | refine arith_i64 (by omega) (by omega) ?_)
    exact h _ _ ((s.drop 2).dup j hj rfl)
  have hle' : ¬ 1152921504606846976 < (eAt T x).2.1.1 * k := fun h => hle (hiff.2 h)
  have hp : pPower T most x k = pAdd T most (mkPower T x k) := by unfold pPower; rw [if_neg hu, if_neg hz, if_neg h1, if_neg hle']
  rw [hp] at h
  have hmul : k * (eAt T x).2.1.1 = (eAt T x).2.1.1 * k := Int.mul_comm _ _
  have hnn : 0 ≤ (eAt T x).2.1.1 * k := Int.mul_nonneg (by omega) hk0
  refine s.drawK fun w11 s => s.ld0 1 rfl rfl (s.ld0 1 rfl rfl (s.ld0 1 rfl rfl (ref10_Length_spec s (j + 2) hj hkx hl fun w5 s => ⟨s.at_ 1 rfl, s.at_ 1 rfl, ?_⟩)))
  refine arith_i64 (by omega) (by omega) (ref10_Depth_spec s (j + 2) hj hkx hl fun w6 s => ⟨s.at_ 1 rfl, arith_i64 (by omega) (by omega) ?_⟩)
  refine ref10_intern_spec (e := mkPower T x k) ⟨rfl, ?_, rfl⟩ s (j + 2) hj hl fun m' w3 s => s.st0 1 rfl rfl rfl fun w4 s => s.ld0 1 rfl rfl ?_
  · rw [hmul]; exact (wRep_len _ _).symm
  · exact h _ _ (s.pick [0] 3 rfl (by decide))

end Go.Proofs.Ytddhndabnbckmaa

/- The fixed example of the layer, and the calls of no store. -/
set_option linter.unusedVariables false
set_option linter.unusedSimpArgs false
namespace Go.Proofs.Ytddhndabnbckmaa
open Go.Den

variable {w0 : World}

theorem ext_fresh {B B' : Nat → Prop} {w1 w' : World} (e : Ext w0 w1) (k : Step B B' w1 w') (hB : ∀ b, B b → w0.heap.size ≤ b) : Ext w0 w' :=
  ⟨Nat.le_trans e.size k.fr.size, fun b hb _ => by
    rw [k.fr.same b (Nat.lt_of_lt_of_le hb e.size) (fun h => by have := hB b h; omega), e.same b hb (fun h => h)], k.fr.pub.1.trans e.pub.1, k.fr.pub.2.1.trans e.pub.2.1, k.fr.pub.2.2.trans e.pub.2.2⟩

def aw1 : List ET := [mkLetter 97]
def aw2 : List ET := aw1 ++ [mkLetter 98]
def aw3 : List ET := aw2 ++ [mkPair aw2 1 2]
def aw4 : List ET := aw3 ++ [mkPower aw3 3 5]
theorem aw_1 : pLetter [] 4 97 = (aw1, (1, .nilIface)) := by kernel_rfl
theorem aw_2 : pLetter aw1 4 98 = (aw2, (2, .nilIface)) := by kernel_rfl
theorem aw_3 : pPair aw2 4 1 2 = (aw3, (3, .nilIface)) := by kernel_rfl
theorem aw_4 : pPower aw3 4 3 5 = (aw4, (4, .nilIface)) := by kernel_rfl
theorem aw_5 : pPower aw4 4 3 6 = (aw4, (0, errV 3)) := by kernel_rfl

theorem law10_awake_spec {K : Bool → World → Prop} (h : ∀ w', Ext w0 w' → K true w') : C_law10_awake K w0 := by
  apply S_law10_awake
  unfold F_law10_awake
  refine intern_New_spec fun p w1 B e1 hB st1 => gd_f rfl (intern_Letter_spec st1 (by decide) ?_)
  rw [if_neg (by decide), if_neg (by decide), aw_1]
  refine fun w2 B2 k2 st2 => intern_Letter_spec st2 (by decide) ?_
  rw [aw_2]
  refine fun w3 B3 k3 st3 => intern_Pair_spec st3 ?_
  rw [aw_3]
  refine fun w4 B4 k4 st4 => intern_Power_spec (by decide) st4 ?_
  rw [aw_4]
  refine fun w5 B5 k5 st5 => intern_Power_spec (by decide) st5 ?_
  rw [aw_5]
  refine fun w6 B6 k6 st6 => ?_
  have e6 : Ext w0 w6 := ext_fresh e1 ((((k2.trans k3).trans k4).trans k5).trans k6) hB
  refine gd_t rfl (gd_t rfl (gd_t rfl (gd_t rfl (nilIfc_nil (gd_t rfl (base_Is_err (by decide) (gd_t rfl (intern_Len_spec st6 (gd_t rfl (intern_Room_spec st6 fun w7 e7 => ?_)))))))))) 
  exact h _ (e6.trans e7)

theorem partV_int (cs : Array Value) (off : Nat) : partV P t_int cs off = cs[off]? := by
  have h1 : (P.underlying t_int).isSome = true := by kernel_rfl
  have h2 : isAggP P t_int = false := by kernel_rfl
  unfold partV
  rw [h2]
  cases hu : P.underlying t_int with
  | none => rw [hu] at h1; cases h1
  | some d => rfl
theorem nil_part {x : Int} (h0 : 0 ≤ x) (h8 : x < 8) : partV P t_int #[.int .i64 5, .int .i64 5, .int .i64 5, .int .i64 5, .int .i64 5, .int .i64 5, .int .i64 5, .int .i64 5] (x.toNat * 1) = some (val (.int .i64) (5 : Int)) := by
  rw [partV_int, Nat.mul_one]
  have hn : x.toNat < 8 := by omega
  generalize x.toNat = n at hn
  rcases n with _ | _ | _ | _ | _ | _ | _ | _ | n
  all_goals first | rfl | omega

theorem law10_InternNil_spec {b l k : Int} {s : Sl} {K : Bool → World → Prop} (h : ∀ w', Ext w0 w' → K true w') : C_law10_InternNil b l k s K w0 := by
  apply S_law10_InternNil
  unfold F_law10_InternNil
  refine law10_awake_spec fun w1 e1 => gd_f rfl (intern_Letter_nil (intern_Pair_nil (intern_Power_nil (intern_Rule_nil fun w5 e5 => ?_))))
  refine (((St.init w0).ext e1).ext e5).allocK fun a6 w6 s _ _ => s.st0 0 rfl (by rw [cells_length]; rfl) rfl fun w7 s _ => intern_Weight_nil fun w8 e8 => ?_
  refine (s.ext e8).allocK fun a8 w9 s _ _ => s.st0 0 rfl (by rw [cells_length]; rfl) rfl fun w10 s _ => intern_Depth_nil (intern_Import_nil (intern_Export_nil (intern_Find_nil fun w14 e14 => ?_)))
  have e := (s.ext e14).fr
  refine base_Num_err (base_Num_err (base_Num_err (base_Num_err (base_Num_err (base_Num_err (base_Num_err (base_Num_err ?_)))))))
  refine ⟨fun x w => 0 ≤ x.1 ∧ x.1 ≤ 8 ∧ w = w14, fun x _ => (8 - x.1).toNat, ⟨by decide, by decide, rfl⟩, ?_⟩
  rintro ⟨x, _⟩ w ⟨h0, h8, rfl⟩ _
  dsimp only at h0 h8 ⊢
  refine gd_dec (fun hlt => ⟨h0, hlt, 5, ?_, gd_f rfl (arith_i64 (by omega) (by omega) ⟨⟨?_, ?_, rfl⟩, ?_⟩)⟩) (fun _ => gd_t rfl (intern_Len_nil (gd_t rfl (intern_Room_nil (h _ e)))))
  · exact nil_part h0 hlt
  · omega
  · omega
  · omega

end Go.Proofs.Ytddhndabnbckmaa

/- The calls of the layer's statements as one function of lists, and that a second call changes nothing. -/
set_option linter.unusedVariables false
set_option linter.unusedSimpArgs false
namespace Go.Proofs.Ytddhndabnbckmaa
open Go.Den

variable {w0 : World}

abbrev OT := Int × Int × Int × Int × Int
def pOp (L : List ET) (most : Int) (o : OT) : List ET × (Int × Value) :=
  if o.1 % 3 = 0 then pLetter L most o.2.1 else if o.1 % 3 = 1 then pPair L most o.2.2.1 o.2.2.2.1 else pPower L most o.2.2.1 o.2.2.2.2
structure OpOK (o : OT) : Prop where
  kind : 0 ≤ o.1
  b : 0 ≤ o.2.1 ∧ o.2.1 < 256
  k : o.2.2.2.2 ≤ 9223372036854775807

theorem pAdd_twice {L : List ET} {most : Int} {e : ET} : (pAdd L most e).1 = L ∨ ((pAdd L most e) = (L ++ [e], ((L.length : Int) + 1, .nilIface)) ∧ ∀ e' : ET, e'.1 = e.1 → pAdd (L ++ [e]) most e' = (L ++ [e], ((L.length : Int) + 1, .nilIface))) := by
  cases hl : lkR L e.1 with
  | some i => left; rw [(pAdd_some (most := most) hl).2.1]
  | none =>
    by_cases hm : most ≤ L.length
    · left; rw [(pAdd_full (most := most) hl hm).2]
    · right
      refine ⟨(pAdd_new (most := most) hl hm).2, fun e' he => ?_⟩
      unfold pAdd
      rw [he, lkR_append_none hl, if_pos rfl]
theorem twice_of {L : List ET} {f : List ET → List ET × (Int × Value)} (h : (f L).1 = L ∨ f (f L).1 = f L) : f (f L).1 = f L := by
  rcases h with h | h
  · rw [h]
  · exact h
theorem pOp_twice {L : List ET} {most : Int} {o : OT} : pOp (pOp L most o).1 most o = pOp L most o := by
  refine twice_of (f := fun L => pOp L most o) ?_
  simp only [pOp]
  by_cases h0 : o.1 % 3 = 0
  · simp only [if_pos h0]
    rcases pAdd_twice (L := L) (most := most) (e := mkLetter o.2.1) with h | ⟨h, h'⟩
    · exact Or.inl h
    · right
      unfold pLetter
      rw [h]
      exact h' _ rfl
  · simp only [if_neg h0]
    by_cases h1 : o.1 % 3 = 1
    · simp only [if_pos h1]
      generalize o.2.2.1 = l
      generalize o.2.2.2.1 = r
      unfold pPair
      by_cases c1 : known L l = false ∨ known L r = false
      · left; rw [if_pos c1]
      · rw [if_neg c1]
        by_cases c2 : l = 0
        · left; rw [if_pos c2]
        · rw [if_neg c2]
          by_cases c3 : r = 0
          · left; rw [if_pos c3]
          · rw [if_neg c3]
            by_cases c4 : 1152921504606846976 < (eAt L l).2.1.1 + (eAt L r).2.1.1
            · left; rw [if_pos c4]
            · rw [if_neg c4]
              rcases pAdd_twice (L := L) (most := most) (e := mkPair L l r) with h | ⟨h, h'⟩
              · exact Or.inl h
              · right
                have kl : known L l = true := by
                  cases e : known L l
                  · exact absurd (Or.inl e) c1
                  · rfl
                have kr : known L r = true := by
                  cases e : known L r
                  · exact absurd (Or.inr e) c1
                  · rfl
                have bl := of_decide_eq_true kl
                have br := of_decide_eq_true kr
                rw [h]
                simp only
                rw [known_append kl, known_append kr, if_neg (by simp), if_neg c2, if_neg c3, eAt_append bl.1 bl.2, eAt_append br.1 br.2, if_neg c4]
                exact h' _ rfl
    · simp only [if_neg h1]
      generalize o.2.2.1 = x
      generalize o.2.2.2.2 = k
      unfold pPower
      by_cases c1 : known L x = false ∨ k < 0
      · left; rw [if_pos c1]
      · rw [if_neg c1]
        by_cases c2 : k = 0 ∨ x = 0
        · left; rw [if_pos c2]
        · rw [if_neg c2]
          by_cases c3 : k = 1
          · left; rw [if_pos c3]
          · rw [if_neg c3]
            by_cases c4 : 1152921504606846976 < (eAt L x).2.1.1 * k
            · left; rw [if_pos c4]
            · rw [if_neg c4]
              rcases pAdd_twice (L := L) (most := most) (e := mkPower L x k) with h | ⟨h, h'⟩
              · exact Or.inl h
              · right
                have kx : known L x = true := by
                  cases e : known L x
                  · exact absurd (Or.inl e) c1
                  · rfl
                have bx := of_decide_eq_true kx
                rw [h]
                simp only
                rw [known_append kx, if_neg (fun c => c1 (Or.inr (c.resolve_left (by simp)))), if_neg c2, if_neg c3, eAt_append bx.1 bx.2, if_neg c4]
                exact h' _ rfl

theorem pOp_err {L : List ET} {most : Int} {o : OT} : IsErr (pOp L most o).2.2 := by
  unfold pOp
  split
  · exact pLetter_err
  split
  · exact pPair_err
  · exact pPower_err

variable {B : Nat → Prop} {p : Addr} {most : Int} {L : List ET}
theorem law10_InternTwice_1_spec {o : OT} {a : Addr} (ho : OpOK o) (st : Sto B w0 p most L) (ha : At w0 a [.pointer (some p)]) {K : Int × Value → World → Prop}
    (h : ∀ w' B', Step B B' w0 w' → Sto B' w' p most (pOp L most o).1 → K (pOp L most o).2 w') : C_law10_InternTwice_1 o a K w0 := by
  apply S_law10_InternTwice_1
  unfold F_law10_InternTwice_1
  refine (St.init w0).allocK fun a1 w1 s e1 _ => s.ldi (x := o.1) 0 0 rfl rfl ⟨by decide, letZ_mk ?_⟩
  rw [Int.tmod_eq_emod_of_nonneg ho.kind]
  unfold pOp at h
  refine gd_eq (fun c0 => ?_) (fun c0 => gd_eq (fun c1 => ?_) (fun c1 => ?_))
  · rw [if_pos c0] at h
    exact ⟨some p, ha.ext e1, s.ldi (x := o.2.1) 0 1 rfl rfl (intern_Letter_spec (st.ext e1) ho.b fun w' B' k st' => h w' B' (.pre e1 k) st')⟩
  · rw [if_neg c0, if_pos c1] at h
    exact ⟨some p, ha.ext e1, s.ldi (x := o.2.2.1) 0 2 rfl rfl (s.ldi (x := o.2.2.2.1) 0 3 rfl rfl (intern_Pair_spec (st.ext e1) fun w' B' k st' => h w' B' (.pre e1 k) st'))⟩
  · rw [if_neg c0, if_neg c1] at h
    exact ⟨some p, ha.ext e1, s.ldi (x := o.2.2.1) 0 2 rfl rfl (s.ldi (x := o.2.2.2.2) 0 4 rfl rfl (intern_Power_spec ho.k (st.ext e1) fun w' B' k st' => h w' B' (.pre e1 k) st'))⟩

theorem law10_few_spec {s : Sl} {K : Bool → World → Prop} (h : K (decide ((s.len : Int) ≤ 60)) w0) : C_law10_few s K w0 := by
  apply S_law10_few
  unfold F_law10_few
  exact h

/-- the fixed example and the bound on the number of calls -/
theorem few_guard {sl : Sl} {B : Bool × Unit → World → Prop} (h1 : ∀ w x, x.1 = true → Ext w0 w → B x w) (h2 : ∀ w x, sl.len ≤ 60 → x.1 = false → Ext w0 w → B x w) :
    JoinP (X := Bool × Unit) (fun R => C_law10_awake (fun x3 w2 => gd (!x3) (R (true, ()) w2) (C_law10_few sl (fun x4 w3 => R (!x4, ()) w3) w2)) w0) B := by
  refine ⟨B, law10_awake_spec fun w1 e1 => gd_f rfl (law10_few_spec ?_), fun _ _ h => h⟩
  by_cases c : (sl.len : Int) ≤ 60
  · exact h2 _ _ (by omega) (by simp [c]) e1
  · exact h1 _ _ (by simp [c]) e1

theorem opOK_of {o : OT} (h : wfT yevergreenlaw10_Op o) : OpOK o := by
  obtain ⟨h1, h2, _, _, h5⟩ := h
  exact ⟨(u8_range h1).1, u8_range h2, (i64_range h5).2⟩

end Go.Proofs.Ytddhndabnbckmaa

/- The layer's calls of the store and of the specification side by side: do, Built. -/
set_option linter.unusedVariables false
set_option linter.unusedSimpArgs false
namespace Go.Proofs.Ytddhndabnbckmaa
open Go.Den

variable {w0 w : World} {Ω : List Ob} {most most' : Int} {T R : List ET} {i j : Nat} {m : yevergreenref10_S.T} {p : Addr}

theorem pAdd_grow {e : ET} (g : Grow T) (hg : lkR T e.1 = none → (T.length : Int) < most → Grow (T ++ [e])) (hl : (T.length : Int) ≤ most) : Grow (pAdd T most e).1 ∧ ((pAdd T most e).1.length : Int) ≤ most := by
  cases hf : lkR T e.1 with
  | some i => rw [(pAdd_some (most := most) hf).2.1]; exact ⟨g, hl⟩
  | none =>
    by_cases hm : most ≤ T.length
    · rw [(pAdd_full (most := most) hf hm).2]; exact ⟨g, hl⟩
    · rw [(pAdd_new (most := most) hf hm).2]
      refine ⟨hg hf (by omega), ?_⟩
      simp only [List.length_append, List.length_cons, List.length_nil]; omega
theorem pLetter_grow {b : Int} (g : Grow T) (hl : (T.length : Int) ≤ most) (hb : 0 ≤ b ∧ b < 256) : Grow (pLetter T most b).1 ∧ ((pLetter T most b).1.length : Int) ≤ most :=
  pAdd_grow g (fun h _ => .letter g hb.1 hb.2 h) hl
theorem pPair_grow {l r : Int} (g : Grow T) (hl : (T.length : Int) ≤ most) : Grow (pPair T most l r).1 ∧ ((pPair T most l r).1.length : Int) ≤ most := by
  unfold pPair
  split
  · exact ⟨g, hl⟩
  rename_i hu
  obtain ⟨kl, kr⟩ := known_false_or hu
  have bl := of_decide_eq_true kl
  have br := of_decide_eq_true kr
  split
  · exact ⟨g, hl⟩
  split
  · exact ⟨g, hl⟩
  split
  · exact ⟨g, hl⟩
  · exact pAdd_grow g (fun h _ => .pair g (by omega) bl.2 (by omega) br.2 (by omega) h) hl
theorem pPower_grow {x k : Int} (g : Grow T) (hl : (T.length : Int) ≤ most) : Grow (pPower T most x k).1 ∧ ((pPower T most x k).1.length : Int) ≤ most := by
  unfold pPower
  split
  · exact ⟨g, hl⟩
  rename_i hu
  have kx : known T x = true := by
    cases e : known T x
    · exact absurd (Or.inl e) hu
    · rfl
  have hk : ¬ k < 0 := fun h => hu (Or.inr h)
  have bx := of_decide_eq_true kx
  split
  · exact ⟨g, hl⟩
  split
  · exact ⟨g, hl⟩
  split
  · exact ⟨g, hl⟩
  · exact pAdd_grow g (fun h _ => .power g (by omega) bx.2 (by omega) (by omega) h) hl
theorem pOp_grow {o : OT} (g : Grow T) (hl : (T.length : Int) ≤ most) (ho : OpOK o) : Grow (pOp T most o).1 ∧ ((pOp T most o).1.length : Int) ≤ most := by
  unfold pOp
  split
  · exact pLetter_grow g hl ho.b
  split
  · exact pPair_grow g hl
  · exact pPower_grow g hl

theorem rfs_len (s : Sp w0 Ω w) (j : Nat) (h : Ω[j]? = some (rfs m most T)) : (m.2.1.len : Int) = T.length ∧ @Eq Int m.1 most := by
  have := Sp.rfs_ s j h
  have e := this.2.1.len
  rw [rulesOf_len] at e
  exact ⟨by omega, this.1⟩

theorem law10_do_spec {o : OT} (ho : OpOK o) (s : Sp w0 Ω w) (i : Nat) (hi : Ω[i]? = some (sto p most T)) (j : Nat) (hj : Ω[j]? = some (rfs m most' R)) (hij : i ≠ j) (hg : Grow R) (hl : R.length ≤ 1048576) (hm : 0 ≤ most' ∧ most' ≤ 1048576) {K : yevergreenref10_S.T × Bool → World → Prop}
    (h : ∀ m' b w', Sp w0 (rfs m' most' (pOp R most' o).1 :: Ω.set i (sto p most (pOp T most o).1)) w' → (R = T → most' = most → b = true) → K (m', b) w') : C_law10_do (some p) m o K w := by
  apply S_law10_do
  unfold F_law10_do
  refine s.allocK fun a1 w1 s => s.allocK fun a2 w2 s => s.allocK fun a3 w3 s => ⟨fun x w => ∃ m', x.1 = (pOp T most o).2.1 ∧ x.2.1 = (pOp R most' o).2.1 ∧ x.2.2.1 = (pOp T most o).2.2 ∧ x.2.2.2.1 = codeOf (pOp R most' o).2.2 ∧
    Sp w0 (rfs m' most' (pOp R most' o).1 :: cel a3 [.int .i64 (0 : Int), .slice none 0 0, .slice none 0 0, .slice none 0 0] :: cel a2 (cells yevergreenlaw10_Op o) :: cel a1 (cells yevergreenref10_S m') :: Ω.set i (sto p most (pOp T most o).1)) w, ?_, ?_⟩
  · refine s.ldi (x := o.1) 1 0 rfl rfl ⟨by decide, letZ_mk ?_⟩
    rw [Int.tmod_eq_emod_of_nonneg ho.kind]
    have hset : ∀ X, (Ω.set i X)[j]? = some (rfs m most' R) := fun X => by rw [List.getElem?_set, if_neg hij]; exact hj
    unfold pOp
    refine gd_eq (fun c0 => ?_) (fun c0 => gd_eq (fun c1 => ?_) (fun c1 => ?_))
    · simp only [if_pos c0]
      refine s.ldi (x := o.2.1) 1 1 rfl rfl (intern_Letter_sp s (i + 3) hi ho.b fun w5 s => s.ld0 2 rfl rfl (s.ldi (x := o.2.1) 1 1 rfl rfl ?_))
      exact ref10_Letter_spec s (j + 3) (hset _) hl fun m' w6 s => s.st0 3 rfl rfl rfl fun w7 s => ⟨m', rfl, rfl, rfl, rfl, s⟩
    · simp only [if_neg c0, if_pos c1]
      refine s.ldi (x := o.2.2.1) 1 2 rfl rfl (s.ldi (x := o.2.2.2.1) 1 3 rfl rfl (intern_Pair_sp s (i + 3) hi fun w5 s => s.ld0 2 rfl rfl (s.ldi (x := o.2.2.1) 1 2 rfl rfl (s.ldi (x := o.2.2.2.1) 1 3 rfl rfl ?_))))
      exact ref10_Pair_spec hg s (j + 3) (hset _) hl fun m' w6 s => s.st0 3 rfl rfl rfl fun w7 s => ⟨m', rfl, rfl, rfl, rfl, s⟩
    · simp only [if_neg c0, if_neg c1]
      refine s.ldi (x := o.2.2.1) 1 2 rfl rfl (s.ldi (x := o.2.2.2.2) 1 4 rfl rfl (intern_Power_sp s (i + 3) hi ho.k fun w5 s => s.ld0 2 rfl rfl (s.ldi (x := o.2.2.1) 1 2 rfl rfl (s.ldi (x := o.2.2.2.2) 1 4 rfl rfl ?_))))
      exact ref10_Power_spec hg s (j + 3) (hset _) hl ho.k fun m' w6 s => s.st0 3 rfl rfl rfl fun w7 s => ⟨m', rfl, rfl, rfl, rfl, s⟩
  rintro ⟨x1, x2, x3, x4, _⟩ w4 ⟨m', h1, h2, h3, h4, s⟩ _
  dsimp only at h1 h2 h3 h4 ⊢
  subst h1 h2 h3 h4
  have hi' : (Ω.set i (sto p most (pOp T most o).1))[i]? = some (sto p most (pOp T most o).1) := by
    rw [List.getElem?_set]; simp [(List.getElem?_eq_some_iff.1 hi).1]
  obtain ⟨hlen, hmo⟩ := rfs_len s 0 rfl
  have hgr := pOp_grow (most := 1048576) hg (by omega) ho
  obtain ⟨_, _, _, hb0, hb1, hb2, _⟩ := Sp.entry s (i + 4) hi'
  refine s.drawK fun w5 s => s.ld0 3 rfl rfl (gd_eq (fun e1 => base_Num_spec pOp_err ⟨s.at_ 3 rfl, gd_eq (fun e2 => s.lds (x := m'.2.1) 3 1 rfl rfl ?_) (fun e2 => ?_)⟩) (fun e1 => ?_))
  · refine intern_Len_sp s (i + 4) hi' ⟨s.still 3 1 rfl rfl, s.at_ 3 rfl, gd_eq (fun e3 => ?_) (fun e3 => ?_)⟩
    · refine s.ldi (x := m'.1) 3 0 rfl rfl (s.lds (x := m'.2.1) 3 1 rfl rfl (arith_i64 (by omega) (by omega) (intern_Room_sp s (i + 4) hi' fun w6 s => ?_)))
      refine ⟨s.still 3 1 rfl rfl, s.still 3 0 rfl rfl, s.at_ 3 rfl, s.st0 1 rfl rfl rfl fun w7 s => ⟨s.still 3 1 rfl rfl, s.still 3 0 rfl rfl, s.ld0 1 rfl rfl ?_⟩⟩
      refine h _ _ _ (s.pick [0] 4 rfl (by decide)) fun q1 q2 => ?_
      subst q1 q2
      rw [hmo, hlen]; simp
    · refine s.st0 1 rfl rfl rfl fun w7 s => s.ld0 1 rfl rfl (h _ _ _ (s.pick [0] 4 rfl (by decide)) fun q1 q2 => ?_)
      subst q1 q2
      exact absurd hlen.symm e3
  · refine s.st0 1 rfl rfl rfl fun w7 s => s.ld0 1 rfl rfl (h _ _ _ (s.pick [0] 4 rfl (by decide)) fun q1 q2 => ?_)
    subst q1 q2
    exact absurd rfl e2
  · refine s.st0 1 rfl rfl rfl fun w7 s => s.ld0 1 rfl rfl (h _ _ _ (s.pick [0] 4 rfl (by decide)) fun q1 q2 => ?_)
    subst q1 q2
    exact absurd rfl e1

def clip20 (n : Int) : Int := if n < 0 then 0 else if 1048576 < n then 1048576 else n
theorem clip20_bound (n : Int) : 0 ≤ clip20 n ∧ clip20 n ≤ 1048576 := by unfold clip20; grind
theorem law10_Built_spec {n : Int} {sl : Sl} {ops : List OT} (s : Sp w0 Ω w) (hv : View yevergreenlaw10_Op w0 sl ops) (ho : ∀ o ∈ ops, OpOK o) (hs : sl.len ≤ 1000) {K : Option Addr × yevergreenref10_S.T × Bool → World → Prop}
    (h : ∀ p m' T w', Sp w0 (rfs m' (clip20 n) T :: sto p (clip20 n) T :: Ω) w' → K (some p, m', true) w') : C_law10_Built n sl K w := by
  apply S_law10_Built
  unfold F_law10_Built
  have hc := clip20_bound n
  have hlen := hv.len
  refine s.allocK fun a1 w1 s => intern_New_sp s fun p w2 s => ref10_New_spec s fun m w3 s hm1 hm2 => s.allocK fun a4 w4 s => s.st0 0 rfl rfl rfl fun w5 s => ?_
  replace s : Sp w0 (cel a4 (cells yevergreenref10_S m) :: rfs m (clip20 n) [] :: sto p (clip20 n) [] :: cel a1 _ :: Ω) w5 := s
  refine ⟨fun x w => x.1 = false ∧ Sp w0 (cel a4 (cells yevergreenref10_S m) :: rfs m (clip20 n) [] :: sto p (clip20 n) [] :: cel a1 _ :: Ω) w, s.drawK fun w6 s => gd_f rfl (intern_Len_sp s 2 rfl (gd_f rfl (s.ldi (x := m.1) 0 0 rfl rfl (intern_Room_sp s 2 rfl fun w7 s => ⟨s.still 0 0 rfl rfl, ?_, s⟩)))), ?_⟩
  · have : @Eq Int m.1 (clip20 n) := (Sp.rfs_ s 1 rfl).1
    rw [this]; simp
  rintro ⟨x, _⟩ w6 ⟨hx, s⟩ _
  refine gd_f hx (loop_by (fun x => x.1) ops.length (fun _ _ w => ∃ m' T, Sp w0 (cel a4 (cells yevergreenref10_S m') :: rfs m' (clip20 n) T :: sto p (clip20 n) T :: cel a1 [.int .i64 (0 : Int), .slice none 0 0, .slice none 0 0, .slice none 0 0] :: Ω) w) rfl ⟨m, [], s⟩ ?_)
  rintro k ⟨x, _⟩ w7 hk hx ⟨m', T, s⟩ _
  dsimp only at hx ⊢
  subst hx
  obtain ⟨_, _, _, hb0, hb1, hb2, hg⟩ := Sp.entry s 2 rfl
  refine gd_dec (fun hlt => ?_) (fun hge => ?_)
  · have hkl : k < ops.length := by omega
    have hop : ops[k]? = some ops[k] := List.getElem?_eq_getElem hkl
    have hok := ho _ (List.getElem_mem hkl)
    generalize ops[k] = o at hop hok
    refine (hv.ext s.ext).idx rfl hop rfl fun q hq => ⟨o, hq, s.allocK fun a16 w8 s => s.st0 0 rfl rfl rfl fun w9 s => s.ld0 1 rfl rfl (s.ld0 (ty := yevergreenlaw10_Op) (x := o) 0 rfl rfl ?_)⟩
    refine law10_do_spec hok s 3 rfl 2 rfl (by decide) hg (by omega) hc fun m'' b w10 s hb => ?_
    have hb' := hb rfl rfl
    subst hb'
    refine s.st0 2 rfl rfl rfl fun w11 s => gd_f rfl (arith_i64 (by omega) (by omega) (loop_nx hkl ⟨m'', _, s.pick [2, 0, 4, 5] 6 rfl (by decide)⟩))
  · refine s.drawK fun w8 s => s.ld0 0 rfl rfl (s.st0 3 rfl rfl rfl fun w9 s => s.ld0 3 rfl rfl (h p m' T _ (s.pick [1, 2] 4 rfl (by decide))))

theorem law10_InternRules_spec {n : Int} {sl : Sl} {ops : List OT} (hv : View yevergreenlaw10_Op w0 sl ops) (ho : ∀ o ∈ ops, OpOK o) {K : Bool → World → Prop} (h : ∀ w', Ext w0 w' → K true w') : C_law10_InternRules n sl K w0 := by
  apply S_law10_InternRules
  unfold F_law10_InternRules
  refine few_guard (fun w1 x hx e1 => fun _ => gd_t hx (law10_awake_spec fun w2 e2 => h _ (e1.trans e2))) fun w1 x hs hx e1 => fun _ => gd_f hx ?_
  have s : Sp w0 [] w1 := (Sp.init w0).toExt e1
  exact law10_Built_spec s hv ho (by omega) fun p m' T w3 s => s.allocK fun a1 w2 s => s.st0 0 rfl rfl rfl fun w4 s => h _ s.ext

end Go.Proofs.Ytddhndabnbckmaa

/- The walk of InternAsks. -/
set_option linter.unusedVariables false
set_option linter.unusedSimpArgs false
namespace Go.Proofs.Ytddhndabnbckmaa
open Go.Den

variable {w0 w : World} {T : List ET}

theorem rulesOf_get {n : Nat} (h : n < T.length) : (rulesOf T)[n]? = some (eAt T ((n : Int) + 1)).1 := by
  have := eAt_get (L := T) (id := (n : Int) + 1) (by omega) (by omega)
  rw [show ((n : Int) + 1 - 1).toNat = n by omega] at this
  rw [rulesOf, List.getElem?_map, this]; rfl
theorem lensOf_get {n : Nat} (h : n < T.length) : (lensOf T)[n]? = some (eAt T ((n : Int) + 1)).2.1.1 := by
  have := eAt_get (L := T) (id := (n : Int) + 1) (by omega) (by omega)
  rw [show ((n : Int) + 1 - 1).toNat = n by omega] at this
  rw [lensOf, List.getElem?_map, this]; rfl
theorem depsOf_get {n : Nat} (h : n < T.length) : (depsOf T)[n]? = some (eAt T ((n : Int) + 1)).2.2.1 := by
  have := eAt_get (L := T) (id := (n : Int) + 1) (by omega) (by omega)
  rw [show ((n : Int) + 1 - 1).toNat = n by omega] at this
  rw [depsOf, List.getElem?_map, this]; rfl

theorem law10_InternAsks_spec {other : Int} {ask : RT} {sl : Sl} {ops : List OT} (hv : View yevergreenlaw10_Op w0 sl ops) (ho : ∀ o ∈ ops, OpOK o) {K : Bool → World → Prop} (h : ∀ w', Ext w0 w' → K true w') : C_law10_InternAsks sl other ask K w0 := by
  apply S_law10_InternAsks
  unfold F_law10_InternAsks
  refine (Sp.init w0).allocK fun a1 w1 s => few_guard (fun w1 x hx e1 => fun _ => gd_t hx (law10_awake_spec fun w2 e2 => h _ ((s.toExt e1).toExt e2).ext)) fun w2 x hs hx e1 => fun _ => gd_f hx ?_
  replace s := s.toExt e1
  refine law10_Built_spec s hv ho (by omega) fun p m T w3 s => s.allocK fun a8 w4 s => s.st0 0 rfl rfl rfl fun w5 s => gd_f rfl (s.lds (x := m.2.1) 0 1 rfl rfl ?_)
  obtain ⟨hlen, hmo⟩ := rfs_len s 1 rfl
  obtain ⟨_, _, _, hb0, hb1, hb2, hg⟩ := Sp.entry s 2 rfl
  refine loop_by (fun x => x.1) T.length (fun n _ w => Sp w0 [cel a8 (cells yevergreenref10_S m), rfs m (clip20 100) T, sto p (clip20 100) T, cel a1 (cells yapi_Rule ask)] w) rfl s ?_
  rintro n ⟨x, _⟩ w6 hn hx s _
  dsimp only at hx ⊢
  subst hx
  refine gd_dec (fun hlt => ?_) (fun hge => ?_)
  · have hn' : n < T.length := by omega
    refine arith_i64 (by omega) (by omega) (intern_Rule_k s 2 rfl (by omega) fun w7 s => s.allocK fun a14 w8 s => s.st0 0 rfl rfl rfl fun w9 s => intern_Depth_k s 3 rfl (by omega) fun w10 s => intern_Weight_k s 3 rfl (by omega) fun w11 s => ?_)
    refine s.allocK fun a17 w12 s => s.st0 0 rfl rfl rfl fun w13 s => s.ld0 1 rfl rfl (intern_Find_sp s 4 rfl fun w14 s => ?_)
    rw [hg.find (by omega) (by omega)]
    obtain ⟨_, hv1, hv2, hv3⟩ := Sp.rfs_ s 3 rfl
    refine JoinP.inl (s.drawK fun w15 s => nilIfc_nil (gd_f rfl (nilIfc_nil (gd_f rfl (nilIfc_nil (gd_f rfl (s.ld0 1 rfl rfl (s.lds (x := m.2.1) 2 1 rfl rfl ?_))))))))
    obtain ⟨_, hv1, hv2, hv3⟩ := Sp.rfs_ s 3 rfl
    refine hv1.idx rfl (rulesOf_get hn') rfl fun q hq => ⟨_, hq, rule_neq (gd_f (by simp) (s.lds (x := m.2.2.2) 2 3 rfl rfl (hv3.idx rfl (depsOf_get hn') rfl fun q hq => ⟨_, hq, gd_f (by simp) ?_⟩)))⟩
    refine s.ldi (x := (eAt T ((n : Int) + 1)).2.1.1) 0 0 rfl rfl (s.lds (x := m.2.2.1) 2 2 rfl rfl (hv2.idx rfl (lensOf_get hn') rfl fun q hq => ⟨_, hq, gd_f (by simp) (gd_f rfl fun _ => gd_f (by simp) ?_)⟩))
    exact arith_i64 (by omega) (by omega) (loop_nx hn' (s.drop 2))
  · refine intern_Rule_u s 2 rfl (by omega) fun w7 s => s.allocK fun a39 w8 s => s.st0 0 rfl rfl rfl fun w9 s => intern_Depth_k s 3 rfl (by omega) fun w10 s => intern_Weight_k s 3 rfl (by omega) fun w11 s => ?_
    refine s.allocK fun a42 w12 s => s.st0 0 rfl rfl rfl fun w13 s => JoinP.inl (base_Is_err (by decide) (gd_f rfl (nilIfc_nil (gd_f rfl (nilIfc_nil (gd_f rfl (gd_f rfl (s.ld0 0 rfl rfl ?_))))))))
    refine weight_neq (y := (0, 0, 0, 0, 0, 1)) fun _ => gd_f (by simp [eAt, eZero]; rfl) (s.ld0 5 rfl rfl (intern_Find_sp s 4 rfl fun w14 s => s.ld0 2 rfl rfl (s.ld0 5 rfl rfl (ref10_Find_spec s 3 rfl (by omega) fun w15 s => ?_))))
    refine JoinP.inl (gd_f (by simp) fun _ => gd_f ?_ (s.ld0 2 rfl rfl (ref10_Unknown_spec s 3 rfl fun w16 s => ?_)))
    · dsimp only
      cases hf : lkR T ask with
      | none => rfl
      | some i =>
        have := (lkR_pos hf).1
        simp; omega
    cases hk : known T other
    · have hk' : ¬ (0 ≤ other ∧ other ≤ T.length) := of_decide_eq_false hk
      refine gd_f rfl (intern_Rule_u s 4 rfl (by omega) fun w s => intern_Depth_u s 4 rfl (by omega) fun w s => intern_Weight_u s 4 rfl (by omega) fun w s => ?_)
      exact base_Is_err (by decide) (gd_t rfl (base_Is_err (by decide) (gd_t rfl (base_Is_err (by decide) (h _ s.ext)))))
    · exact gd_t rfl (h _ s.ext)

end Go.Proofs.Ytddhndabnbckmaa

/- The walk of InternWeights. -/
set_option linter.unusedVariables false
set_option linter.unusedSimpArgs false
namespace Go.Proofs.Ytddhndabnbckmaa
open Go.Den

variable {w0 w : World} {T : List ET}

/-- the calls, without the specification's store -/
theorem do_zero {Ω : List Ob} {p : Addr} {most : Int} {o : OT} (ho : OpOK o) (s : Sp w0 Ω w) (i : Nat) (hi : Ω[i]? = some (sto p most T)) {K : yevergreenref10_S.T × Bool → World → Prop}
    (h : ∀ x w', Sp w0 (Ω.set i (sto p most (pOp T most o).1)) w' → K x w') : C_law10_do (some p) ((0 : Int), (⟨none, 0, 0⟩, (⟨none, 0, 0⟩, ⟨none, 0, 0⟩))) o K w :=
  law10_do_spec (m := mZero) (most' := 0) (R := []) ho (Sp.rfs0 s) (i + 1) hi 0 rfl (by omega) .nil (by decide) (by decide) fun m' b w' s _ => h _ _ (s.drop 2)

theorem shape_refs {id : Int} (h : Shape T id) (h1 : 1 ≤ id) (h2 : id ≤ T.length) : (0 ≤ (eAt T id).1.2.2.1 ∧ (eAt T id).1.2.2.1 < id) ∧ (0 ≤ (eAt T id).1.2.2.2.1 ∧ (eAt T id).1.2.2.2.1 < id) := by
  cases h with
  | letter b _ _ e => rw [e]; simp only [mkLetter]; omega
  | pair l r _ _ _ _ _ e => rw [e]; simp only [mkPair]; omega
  | power x k _ _ _ _ e => rw [e]; simp only [mkPower]; omega

theorem law10_InternWeights_spec {sl : Sl} {ops : List OT} (hv : View yevergreenlaw10_Op w0 sl ops) (ho : ∀ o ∈ ops, OpOK o) {K : Bool → World → Prop} (h : ∀ w', Ext w0 w' → K true w') : C_law10_InternWeights sl K w0 := by
  apply S_law10_InternWeights
  unfold F_law10_InternWeights
  refine few_guard (fun w1 x hx e1 => fun _ => gd_t hx (law10_awake_spec fun w2 e2 => h _ (e1.trans e2))) fun w1 x hs hx e1 => fun _ => gd_f hx ?_
  refine intern_New_sp ((Sp.init w0).toExt e1) fun p w2 s => gd_f rfl ?_
  have hlen := hv.len
  refine loop_by (fun x => x.1) ops.length (fun n _ w => ∃ T, Sp w0 [sto p 100 T] w) rfl ⟨[], s⟩ ?_
  rintro n ⟨x, _⟩ w3 hn hx ⟨T, s⟩ _
  dsimp only at hx ⊢
  subst hx
  refine gd_dec (fun hlt => ?_) (fun hge => ?_)
  · have hn' : n < ops.length := by omega
    have hok := ho _ (List.getElem_mem hn')
    refine (hv.ext s.ext).idx rfl (List.getElem?_eq_getElem hn') rfl fun q hq => ⟨_, hq, s.allocK fun a11 w8 s => s.st0 0 rfl rfl rfl fun w9 s => s.ld0 0 rfl rfl (do_zero hok s 1 rfl fun x w10 s => ?_)⟩
    exact arith_i64 (by omega) (by omega) (loop_nx hn' ⟨_, s.drop 1⟩)
  · obtain ⟨_, _, _, hb0, hb1, hb2, hg⟩ := Sp.entry s 0 rfl
    refine loop_from 1 (fun x => x.1) T.length (fun n _ w => Sp w0 [sto p 100 T] w) rfl s ?_
    rintro n ⟨x, _⟩ w4 hn hx s _
    dsimp only at hx ⊢
    subst hx
    refine intern_Len_sp s 0 rfl (gd_dec (fun hle => ?_) (fun hgt => h _ s.ext))
    have hsh := hg.shape (id := 1 + (n : Int)) (by omega) hle
    obtain ⟨hr1, hr2⟩ := shape_refs hsh (by omega) hle
    refine intern_Weight_k s 0 rfl (by omega) fun w5 s => s.allocK fun a19 w6 s => s.st0 0 rfl rfl rfl fun w7 s => intern_Rule_k s 1 rfl (by omega) fun w8 s => s.allocK fun a21 w9 s => s.st0 0 rfl rfl rfl fun w10 s => ?_
    refine JoinP.inl (nilIfc_nil (gd_f rfl (nilIfc_nil fun _ => gd_f rfl (s.ldi (x := (eAt T (1 + (n : Int))).1.2.2.1) 0 2 rfl rfl ?_))))
    refine intern_Weight_k s 2 rfl (by omega) fun w11 s => s.allocK fun a28 w12 s => s.st0 0 rfl rfl rfl fun w13 s => s.ldi (x := (eAt T (1 + (n : Int))).1.2.2.2.1) 1 3 rfl rfl ?_
    refine intern_Weight_k s 3 rfl (by omega) fun w14 s => s.allocK fun a31 w15 s => s.st0 0 rfl rfl rfl fun w16 s => s.allocK fun a32 w17 s => ?_
    refine ⟨fun x w => x.1 = .nilIface ∧ Sp w0 [cel a32 (cells yapi_Weight (eAt T (1 + (n : Int))).2.1), cel a31 (cells yapi_Weight (eAt T (eAt T (1 + (n : Int))).1.2.2.2.1).2.1), cel a28 (cells yapi_Weight (eAt T (eAt T (1 + (n : Int))).1.2.2.1).2.1), cel a21 (cells yapi_Rule (eAt T (1 + (n : Int))).1), cel a19 (cells yapi_Weight (eAt T (1 + (n : Int))).2.1), sto p 100 T] w, ?_, ?_⟩
    · refine s.ldi (x := (eAt T (1 + (n : Int))).1.1) 3 0 rfl rfl ?_
      cases hsh with
      | letter b h1 h2 e =>
        refine gd_t (by rw [e]; rfl) (s.ldi (x := (eAt T (1 + (n : Int))).1.2.1) 3 1 rfl rfl ?_)
        rw [e] at s ⊢
        exact weight_Letter_spec ⟨h1, h2⟩ fun w' e => (s.toExt e).st0 0 rfl rfl rfl fun w18 s => ⟨rfl, s⟩
      | pair l r h1 h2 h3 h4 h5 e =>
        refine gd_f (by rw [e]; rfl) (gd_t (by rw [e]; rfl) (s.ld0 2 rfl rfl (s.ld0 1 rfl rfl ?_)))
        rw [e] at s ⊢
        exact weight_Join_spec (hg.at_ (id := l) (by omega) (by omega)).1 (hg.at_ (id := r) (by omega) (by omega)).1 h5 fun w' e => (s.toExt e).st0 0 rfl rfl rfl fun w18 s => ⟨rfl, s⟩
      | power x k h1 h2 h3 h4 e =>
        refine gd_f (by rw [e]; rfl) (gd_f (by rw [e]; rfl) (s.ld0 2 rfl rfl (s.ldi (x := (eAt T (1 + (n : Int))).1.2.2.2.2) 3 4 rfl rfl ?_)))
        have hpos := (hg.at_ (id := x) (by omega) (by omega)).2.2.2 h1
        have hk : k ≤ 1152921504606846976 := by
          have : 1 * k ≤ (eAt T x).2.1.1 * k := Int.mul_le_mul_of_nonneg_right hpos (by omega)
          omega
        rw [e] at s ⊢
        exact weight_Repeat_spec (hg.at_ (id := x) (by omega) (by omega)).1 ⟨by simp only [mkPower]; omega, by simp only [mkPower]; omega⟩ h4 fun w' e => (s.toExt e).st0 0 rfl rfl rfl fun w18 s => ⟨rfl, s⟩
    · rintro ⟨x, _⟩ w18 ⟨hx, s⟩ _
      dsimp only at hx
      subst hx
      refine JoinP.inl (nilIfc_nil (gd_f rfl (s.ld0 4 rfl rfl (s.ld0 0 rfl rfl (weight_neq fun _ => gd_f (by simp) ?_)))))
      exact arith_i64 (by omega) (by omega) (loop_fx (by omega) (s.drop 5))

end Go.Proofs.Ytddhndabnbckmaa

/- The check of rules, and the import of a list of rules: package rule, package intern, and the specification. -/
set_option linter.unusedVariables false
set_option linter.unusedSimpArgs false
namespace Go.Proofs.Ytddhndabnbckmaa
open Go.Den

variable {w0 w : World} {Ω : List Ob} {most : Int} {T : List ET} {i j : Nat} {m : yevergreenref10_S.T} {p : Addr}

/-! ### The check -/
def refs (r : RT) : List (Ty.int .i64).T := if r.1 = 2 then [r.2.2.1, r.2.2.2.1] else if r.1 = 3 then [r.2.2.1] else []
def formB (r : RT) : Bool :=
  if r.1 = 1 then decide (r.2.2.1 = 0 ∧ r.2.2.2.1 = 0 ∧ r.2.2.2.2 = 0) else
  if r.1 = 2 then decide (r.2.1 = 0 ∧ r.2.2.2.2 = 0) else
  if r.1 = 3 then decide (r.2.1 = 0 ∧ r.2.2.2.1 = 0 ∧ 2 ≤ r.2.2.2.2) else false
def placeB (r : RT) (n : Int) : Bool := decide (1 ≤ n ∧ ∀ x ∈ refs r, 1 ≤ x ∧ x < n)
def chk (r : RT) (n : Int) : Int := if formB r then (if placeB r n then 0 else 1) else 4
def chkV (r : RT) (n : Int) : Value := if chk r n = 0 then .nilIface else errV (chk r n)

theorem refs_len (r : RT) : (refs r).length ≤ 2 := by
  unfold refs
  split
  · exact Nat.le_refl 2
  split
  · exact (by decide : 1 ≤ 2)
  · exact Nat.zero_le 2
theorem placeB_1 {r : RT} {n : Int} (h : r.1 = 1) : placeB r n = decide (1 ≤ n) := by simp [placeB, refs, h]
theorem placeB_2 {r : RT} {n : Int} (h : r.1 = 2) : placeB r n = decide (1 ≤ n ∧ (1 ≤ r.2.2.1 ∧ r.2.2.1 < n) ∧ (1 ≤ r.2.2.2.1 ∧ r.2.2.2.1 < n)) := by simp [placeB, refs, h]
theorem placeB_3 {r : RT} {n : Int} (h : r.1 = 3) : placeB r n = decide (1 ≤ n ∧ 1 ≤ r.2.2.1 ∧ r.2.2.1 < n) := by simp [placeB, refs, h]

theorem rule_Refs_spec {r : RT} (s : Sp w0 Ω w) {K : Sl → World → Prop} (h : ∀ sl w', Sp w0 (own (.int .i64) sl (refs r) :: Ω) w' → K sl w') : C_rule_Refs r K w := by
  apply S_rule_Refs
  unfold F_rule_Refs
  refine s.allocK fun a1 w1 s => s.ldi (x := r.1) 0 0 rfl rfl (gd_eq (fun c1 => ?_) (fun c1 => gd_eq (fun c2 => ?_) (fun c2 => ?_)))
  · have e : refs r = [r.2.2.1, r.2.2.2.1] := by unfold refs; rw [if_pos c1]
    rw [e] at h
    exact s.ldi (x := r.2.2.1) 0 2 rfl rfl (s.ldi (x := r.2.2.2.1) 0 3 rfl rfl (s.allocK fun a2 w2 s => h _ _ ((s.lit (ty := .int .i64) 0 rfl [r.2.2.1, r.2.2.2.1] 2 rfl rfl).pick [0] 2 rfl (by decide))))
  · have e : refs r = [r.2.2.1] := by unfold refs; rw [if_neg c1, if_pos c2]
    rw [e] at h
    exact s.ldi (x := r.2.2.1) 0 2 rfl rfl (s.allocK fun a2 w2 s => h _ _ ((s.lit (ty := .int .i64) 0 rfl [r.2.2.1] 1 rfl rfl).pick [0] 2 rfl (by decide)))
  · have e : refs r = [] := by unfold refs; rw [if_neg c1, if_neg c2]
    rw [e] at h
    exact h _ _ (s.pop.nil (.int .i64))
theorem rule_place_spec {r : RT} {n : Int} (hn : n ≤ 9223372036854775807) (s : Sp w0 Ω w) {K : Value → World → Prop} (h : ∀ w', Sp w0 Ω w' → K (if placeB r n then .nilIface else errV 1) w') : C_rule_place r n K w := by
  apply S_rule_place
  unfold F_rule_place
  refine s.allocK fun a1 w1 s => gd_dec (fun c => ?_) (fun c => s.ld0 0 rfl rfl (rule_Refs_spec s fun sl w2 s => ?_))
  · rw [if_neg (by simp [placeB]; omega)] at h
    exact h _ s.pop
  refine loop_by (fun x => x.1) (refs r).length (fun k _ w => (∀ i, i < k → ∀ x : Int, (refs r)[i]? = some x → 1 ≤ x ∧ x < n) ∧ Sp w0 (own (.int .i64) sl (refs r) :: cel a1 (cells yapi_Rule r) :: Ω) w) rfl ⟨fun i hi => by omega, s⟩ ?_
  rintro k ⟨x, _⟩ w3 hk hx ⟨ha, s⟩ _
  dsimp only at hx ⊢
  subst hx
  have hlen := (s.view 0 rfl).len
  refine gd_dec (fun hlt => ?_) (fun hge => ?_)
  · have hk' : k < (refs r).length := by omega
    obtain ⟨x, hx⟩ : ∃ x : Int, (refs r)[k]? = some x := ⟨_, List.getElem?_eq_getElem hk'⟩
    have hk2 := refs_len r
    refine (s.view 0 rfl).idx rfl hx rfl fun q hq => ⟨_, hq, ⟨fun y w => y.1 = !decide (1 ≤ (x : Int) ∧ (x : Int) < n) ∧ w = w3, gd_dec (fun c1 => ⟨?_, rfl⟩) (fun c1 => arith_i64 (by omega) (by omega) ⟨?_, rfl⟩), ?_⟩⟩
    · simp; omega
    · rw [← decide_not]; exact decide_eq_decide.2 (by omega)
    rintro ⟨y, _⟩ w4 ⟨hy, rfl⟩ _
    dsimp only at hy
    by_cases c1 : 1 ≤ (x : Int) ∧ (x : Int) < n
    · refine gd_f (by rw [hy]; simp [c1]) (arith_i64 (by omega) (by omega) (loop_nx hk' ⟨fun i hi y hy => ?_, s⟩))
      by_cases hik : i < k
      · exact ha i hik y hy
      · have : i = k := by omega
        subst this
        rw [hx] at hy
        cases hy
        exact c1
    · refine gd_t (by rw [hy]; simp; omega) ?_
      rw [if_neg (by
        simp only [placeB, decide_eq_true_eq, not_and]
        exact fun _ h => c1 (h x (List.mem_of_getElem? hx)))] at h
      exact h _ (s.drop 2)
  · rw [if_pos (by
      simp only [placeB, decide_eq_true_eq]
      refine ⟨by omega, fun x hx => ?_⟩
      obtain ⟨i, hi⟩ := List.getElem?_of_mem hx
      exact ha i (by have := (List.getElem?_eq_some_iff.1 hi).1; omega) x hi)] at h
    exact h _ (s.drop 2)
theorem rule_Check_spec {r : RT} {n : Int} (hn : n ≤ 9223372036854775807) (s : Sp w0 Ω w) {K : Value → World → Prop} (h : ∀ w', Sp w0 Ω w' → K (chkV r n) w') : C_rule_Check r n K w := by
  apply S_rule_Check
  unfold F_rule_Check
  refine s.allocK fun a1 w1 s => ⟨fun x w => x.1 = formB r ∧ Sp w0 (cel a1 (cells yapi_Rule r) :: Ω) w, ?_, ?_⟩
  · refine s.ldi (x := r.1) 0 0 rfl rfl (gd_eq (fun c1 => s.ldi (x := r.2.2.1) 0 2 rfl rfl (gd_eq (fun c2 => s.ldi (x := r.2.2.2.1) 0 3 rfl rfl (gd_eq (fun c3 => s.ldi (x := r.2.2.2.2) 0 4 rfl rfl ⟨?_, s⟩) (fun c3 => ⟨?_, s⟩))) (fun c2 => ⟨?_, s⟩)))
      (fun c1 => gd_eq (fun c2 => s.ldi (x := r.2.1) 0 1 rfl rfl (gd_eq (fun c3 => s.ldi (x := r.2.2.2.2) 0 4 rfl rfl ⟨?_, s⟩) (fun c3 => ⟨?_, s⟩)))
        (fun c2 => gd_eq (fun c3 => s.ldi (x := r.2.1) 0 1 rfl rfl (gd_eq (fun c4 => s.ldi (x := r.2.2.2.1) 0 3 rfl rfl (gd_eq (fun c5 => s.ldi (x := r.2.2.2.2) 0 4 rfl rfl ⟨?_, s⟩) (fun c5 => ⟨?_, s⟩))) (fun c4 => ⟨?_, s⟩))) (fun c3 => ⟨?_, s⟩))))
    all_goals rw [Bool.eq_iff_iff]
    all_goals first | (simp [formB, c1, c2, c3, c4, c5]; done) | (simp [formB, c1, c2, c3, c4]; done) | (simp [formB, c1, c2, c3]; done) | (simp [formB, c1, c2]; done) | (simp [formB, c1]; done)
  · rintro ⟨x, _⟩ w2 ⟨hx, s⟩ _
    dsimp only at hx
    subst hx
    unfold chkV chk at h
    cases hf : formB r
    · rw [hf] at h
      exact gd_t rfl (h _ s.pop)
    · rw [hf] at h
      refine gd_f rfl (s.ld0 0 rfl rfl (rule_place_spec hn s fun w3 s => ?_))
      cases hp : placeB r n
      · rw [hp] at h
        exact h _ s.pop
      · rw [hp] at h
        exact h _ s.pop
theorem ref10_Check_spec {r : RT} {n : Int} (s : Sp w0 Ω w) {K : Int → World → Prop} (h : ∀ w', Sp w0 Ω w' → K (chk r n) w') : C_ref10_Check r n K w := by
  apply S_ref10_Check
  unfold F_ref10_Check
  refine s.allocK fun a1 w1 s => ⟨fun x w => x.1 = formB r ∧ Sp w0 (cel a1 (cells yapi_Rule r) :: Ω) w, ?_, ?_⟩
  · refine s.ldi (x := r.1) 0 0 rfl rfl (gd_eq (fun c1 => s.ldi (x := r.2.2.1) 0 2 rfl rfl (gd_eq (fun c2 => s.ldi (x := r.2.2.2.1) 0 3 rfl rfl (gd_eq (fun c3 => s.ldi (x := r.2.2.2.2) 0 4 rfl rfl ⟨?_, s⟩) (fun c3 => ⟨?_, s⟩))) (fun c2 => ⟨?_, s⟩)))
      (fun c1 => gd_eq (fun c2 => s.ldi (x := r.2.1) 0 1 rfl rfl (gd_eq (fun c3 => s.ldi (x := r.2.2.2.2) 0 4 rfl rfl ⟨?_, s⟩) (fun c3 => ⟨?_, s⟩)))
        (fun c2 => gd_eq (fun c3 => s.ldi (x := r.2.1) 0 1 rfl rfl (gd_eq (fun c4 => s.ldi (x := r.2.2.2.1) 0 3 rfl rfl (gd_eq (fun c5 => s.ldi (x := r.2.2.2.2) 0 4 rfl rfl ⟨?_, s⟩) (fun c5 => ⟨?_, s⟩))) (fun c4 => ⟨?_, s⟩))) (fun c3 => ⟨?_, s⟩))))
    all_goals rw [Bool.eq_iff_iff]
    all_goals first | (simp [formB, c1, c2, c3, c4, c5]; done) | (simp [formB, c1, c2, c3, c4]; done) | (simp [formB, c1, c2, c3]; done) | (simp [formB, c1, c2]; done) | (simp [formB, c1]; done)
  · rintro ⟨x, _⟩ w2 ⟨hx, s⟩ _
    dsimp only at hx
    subst hx
    unfold chk at h
    cases hf : formB r
    · rw [hf] at h
      exact gd_t rfl (h _ s.pop)
    · rw [hf] at h
      have h1 : ∀ w', Sp w0 (cel a1 (cells yapi_Rule r) :: Ω) w' → placeB r n = true → K 0 w' := fun w' s e => by
        have := h w' s.pop
        rw [e] at this; exact this
      have h2 : ∀ w', Sp w0 (cel a1 (cells yapi_Rule r) :: Ω) w' → placeB r n = false → K 1 w' := fun w' s e => by
        have := h w' s.pop
        rw [e] at this; exact this
      have hk : r.1 = 1 ∨ r.1 = 2 ∨ r.1 = 3 := by
        unfold formB at hf
        split at hf
        · exact Or.inl ‹_›
        split at hf
        · exact Or.inr (Or.inl ‹_›)
        split at hf
        · exact Or.inr (Or.inr ‹_›)
        · cases hf
      refine gd_f rfl ⟨fun y w => y.1 = !placeB r n ∧ w = w2, gd_dec (fun c => ⟨?_, rfl⟩) (fun c => s.ldi (x := r.1) 0 0 rfl rfl (gd_ne (fun c1 => s.ldi (x := r.2.2.1) 0 2 rfl rfl (gd_dec (fun c2 => ⟨?_, rfl⟩) (fun c2 => s.ldi (x := r.2.2.1) 0 2 rfl rfl (gd_dec (fun c3 => ⟨?_, rfl⟩) (fun c3 =>
          s.ldi (x := r.1) 0 0 rfl rfl (gd_eq (fun c4 => s.ldi (x := r.2.2.2.1) 0 3 rfl rfl (gd_dec (fun c5 => ⟨?_, rfl⟩) (fun c5 => s.ldi (x := r.2.2.2.1) 0 3 rfl rfl ⟨?_, rfl⟩))) (fun c4 => ⟨?_, rfl⟩))))))) (fun c1 => s.ldi (x := r.1) 0 0 rfl rfl (gd_f (by rw [c1]; rfl) ⟨?_, rfl⟩)))), ?_⟩
      · rcases hk with h | h | h
        · rw [placeB_1 h, decide_eq_false (by omega)]; rfl
        · rw [placeB_2 h, decide_eq_false (by omega)]; rfl
        · rw [placeB_3 h, decide_eq_false (by omega)]; rfl
      · rcases hk with h | h | h
        · exact absurd h c1
        · rw [placeB_2 h, decide_eq_false (by omega)]; rfl
        · rw [placeB_3 h, decide_eq_false (by omega)]; rfl
      · rcases hk with h | h | h
        · exact absurd h c1
        · rw [placeB_2 h, decide_eq_false (by omega)]; rfl
        · rw [placeB_3 h, decide_eq_false (by omega)]; rfl
      · rw [placeB_2 c4, decide_eq_false (by omega)]; rfl
      · rw [placeB_2 c4, ← decide_not, decide_eq_decide]; omega
      · have h : r.1 = 3 := by omega
        rw [placeB_3 h, decide_eq_true (by omega)]; rfl
      · rw [placeB_1 c1, decide_eq_true (by omega)]; rfl
      rintro ⟨y, _⟩ w3 ⟨hy, rfl⟩ _
      dsimp only at hy
      cases hp : placeB r n
      · exact gd_t (by rw [hy, hp]; rfl) (h2 _ s hp)
      · exact gd_f (by rw [hy, hp]; rfl) (h1 _ s hp)

theorem ref10_Same_spec {a b : Sl} {xs ys : List yapi_Rule.T} (s : Sp w0 Ω w) (hv : ∀ w', Sp w0 Ω w' → View yapi_Rule w' a xs) (hv' : ∀ w', Sp w0 Ω w' → View yapi_Rule w' b ys) (hl : xs.length ≤ 9223372036854775806) {K : Bool → World → Prop} (h : ∀ w', Sp w0 Ω w' → K (decide (xs = ys)) w') : C_ref10_Same a b K w := by
  apply S_ref10_Same
  unfold F_ref10_Same
  have l1 := (hv w s).len
  have l2 := (hv' w s).len
  refine gd_ne (fun c => ?_) (fun c => ?_)
  · have : ¬ xs = ys := fun e => c (by rw [l1, l2, e])
    rw [decide_eq_false this] at h
    exact h _ s
  have hll : xs.length = ys.length := by omega
  refine loop_by (fun x => x.1) xs.length (fun n _ w => xs.take n = ys.take n ∧ Sp w0 Ω w) rfl ⟨rfl, s⟩ ?_
  rintro n ⟨x, _⟩ w1 hn hx ⟨he, s⟩ _
  dsimp only at hx ⊢
  subst hx
  refine gd_dec (fun hlt => s.drawK fun w2 s => ?_) (fun hge => ?_)
  · have hn1 : n < xs.length := by omega
    have hn2 : n < ys.length := by omega
    have e1 : xs[n]? = some xs[n] := List.getElem?_eq_getElem hn1
    have e2 : ys[n]? = some ys[n] := List.getElem?_eq_getElem hn2
    refine (hv w2 s).idx rfl e1 rfl fun q hq => ⟨_, hq, (hv' w2 s).idx rfl e2 rfl fun q hq => ⟨_, hq, rule_neq ?_⟩⟩
    by_cases c : xs[n] = ys[n]
    · refine gd_f (by simp [c]) (arith_i64 (by omega) (by omega) (loop_nx hn1 ⟨?_, s⟩))
      rw [List.take_add_one, List.take_add_one, e1, e2, he, c]
    · refine gd_t (by simp [c]) ?_
      have : ¬ xs = ys := fun e => c (by subst e; rfl)
      rw [decide_eq_false this] at h
      exact h _ s
  · have : n = xs.length := by omega
    subst this
    rw [List.take_length, hll, List.take_length] at he
    rw [decide_eq_true he] at h
    exact h _ s

end Go.Proofs.Ytddhndabnbckmaa

/- The import of a list of rules, by the store and by the specification. -/
set_option linter.unusedVariables false
set_option linter.unusedSimpArgs false
namespace Go.Proofs.Ytddhndabnbckmaa
open Go.Den

variable {w0 w : World} {Ω : List Ob} {most : Int} {T : List ET} {i j : Nat} {m : yevergreenref10_S.T} {p : Addr}

def atI (ids : List (Ty.int .i64).T) (x : Int) : Int := ids.getD x.toNat (0 : Int)
def pPut (T : List ET) (most : Int) (ids : List (Ty.int .i64).T) (r : RT) : List ET × (Int × Value) :=
  if r.1 = 1 then pLetter T most r.2.1 else
  if r.1 = 2 then pPair T most (atI ids r.2.2.1) (atI ids r.2.2.2.1) else pPower T most (atI ids r.2.2.1) r.2.2.2.2
def pImps (T : List ET) (most : Int) : List RT → List (Ty.int .i64).T → List ET × (Int × Value)
  | [], ids => (T, (ids.getLastD (0 : Int), .nilIface))
  | r :: rs, ids => if isNilI (pPut T most ids r).2.2 then pImps (pPut T most ids r).1 most rs (ids ++ [(pPut T most ids r).2.1]) else ((pPut T most ids r).1, (0, (pPut T most ids r).2.2))
def bad : List RT → Int → Int
  | [], _ => 0
  | r :: rs, n => if chk r n = 0 then bad rs (n + 1) else chk r n
def pImport (T : List ET) (most : Int) (l : List RT) : List ET × (Int × Value) := if bad l 1 = 0 then pImps T most l [(0 : Int)] else (T, (0, errV (bad l 1)))

theorem bad_cons (r : RT) (rs : List RT) (n : Int) : bad (r :: rs) n = if chk r n = 0 then bad rs (n + 1) else chk r n := rfl
theorem pImps_cons (r : RT) (rs : List RT) (ids : List (Ty.int .i64).T) : pImps T most (r :: rs) ids = if isNilI (pPut T most ids r).2.2 then pImps (pPut T most ids r).1 most rs (ids ++ [(pPut T most ids r).2.1]) else ((pPut T most ids r).1, (0, (pPut T most ids r).2.2)) := rfl
theorem bad_zero : ∀ (l : List RT) (n : Int), bad l n = 0 → ∀ (i : Nat) (r : RT), l[i]? = some r → chk r (n + i) = 0
  | [], _, _, _, _, h => by simp at h
  | x :: l, n, h, 0, r, hr => by
    simp only [List.getElem?_cons_zero, Option.some.injEq] at hr
    subst hr
    rw [bad_cons] at h
    split at h
    · rename_i e; simpa using e
    · contradiction
  | x :: l, n, h, i + 1, r, hr => by
    rw [bad_cons] at h
    split at h
    · have := bad_zero l (n + 1) h i r (by simpa using hr)
      rw [← this]; congr 1; omega
    · contradiction
theorem chk_form {r : RT} {n : Int} (h : chk r n = 0) : formB r = true ∧ placeB r n = true := by
  unfold chk at h
  split at h
  · split at h
    · exact ⟨‹_›, ‹_›⟩
    · cases h
  · cases h
theorem form_kind {r : RT} (h : formB r = true) : r.1 = 1 ∨ r.1 = 2 ∨ r.1 = 3 := by
  unfold formB at h
  split at h
  · exact Or.inl ‹_›
  split at h
  · exact Or.inr (Or.inl ‹_›)
  split at h
  · exact Or.inr (Or.inr ‹_›)
  · cases h
theorem pPut_err {ids : List (Ty.int .i64).T} {r : RT} : IsErr (pPut T most ids r).2.2 := by
  unfold pPut
  split
  · exact pLetter_err
  split
  · exact pPair_err
  · exact pPower_err
theorem pPut_grow {ids : List (Ty.int .i64).T} {r : RT} (g : Grow T) (hl : (T.length : Int) ≤ most) (hb : 0 ≤ r.2.1 ∧ r.2.1 < 256) : Grow (pPut T most ids r).1 ∧ ((pPut T most ids r).1.length : Int) ≤ most := by
  unfold pPut
  split
  · exact pLetter_grow g hl hb
  split
  · exact pPair_grow g hl
  · exact pPower_grow g hl
theorem atI_get {ids : List (Ty.int .i64).T} {x : Int} (h0 : 0 ≤ x) (h : x < ids.length) : ids[x.toNat]? = some (atI ids x) := by
  unfold atI
  rw [List.getD_eq_getElem?_getD, List.getElem?_eq_getElem (by omega)]
  rfl
theorem atI_append {ids zs : List (Ty.int .i64).T} {x : Int} (h0 : 0 ≤ x) (h : x < ids.length) : atI (ids ++ zs) x = atI ids x := by
  unfold atI
  rw [List.getD_eq_getElem?_getD, List.getD_eq_getElem?_getD, List.getElem?_append_left (by omega)]
theorem pPut_append {ids zs : List (Ty.int .i64).T} {r : RT} {n : Int} (hp : placeB r n = true) (hn : n ≤ ids.length) (hk : r.1 = 1 ∨ r.1 = 2 ∨ r.1 = 3) : pPut T most (ids ++ zs) r = pPut T most ids r := by
  unfold pPut
  rcases hk with h | h | h
  · simp [h]
  · rw [placeB_2 h, decide_eq_true_eq] at hp
    rw [atI_append (by omega) (by omega), atI_append (by omega) (by omega)]
  · rw [placeB_3 h, decide_eq_true_eq] at hp
    simp only [h]
    rw [if_neg (by decide), if_neg (by decide), if_neg (by decide), if_neg (by decide), atI_append (by omega) (by omega)]

theorem intern_put_sp {r : RT} {to : Sl} {ids : List (Ty.int .i64).T} {n : Int} (hr : 0 ≤ r.2.1 ∧ r.2.1 < 256) (ht : r.2.2.2.2 ≤ 9223372036854775807) (hk : r.1 = 1 ∨ r.1 = 2 ∨ r.1 = 3) (hp : placeB r n = true) (hn : n ≤ ids.length)
    (s : Sp w0 Ω w) (i : Nat) (hi : Ω[i]? = some (sto p most T)) (j : Nat) (hj : Ω[j]? = some (own (.int .i64) to ids)) {K : Int × Value → World → Prop}
    (h : ∀ w', Sp w0 (Ω.set i (sto p most (pPut T most ids r).1)) w' → K (pPut T most ids r).2 w') : C_intern_Store_put (some p) r to K w := by
  apply S_intern_Store_put
  unfold F_intern_Store_put
  unfold pPut at h
  refine s.allocK fun a1 w1 s => s.ldi (x := r.1) 0 0 rfl rfl (gd_eq (fun c1 => ?_) (fun c1 => gd_eq (fun c2 => ?_) (fun c2 => ?_)))
  · simp only [if_pos c1] at h
    exact s.ldi (x := r.2.1) 0 1 rfl rfl (intern_Letter_sp s (i + 1) hi hr fun w2 s => h _ s.pop)
  · simp only [if_neg c1, if_pos c2] at h
    rw [placeB_2 c2, decide_eq_true_eq] at hp
    refine s.drawK fun w2 s => s.ldi (x := r.2.2.1) 0 2 rfl rfl ((s.view (j + 1) hj).idx (n := r.2.2.1.toNat) (by omega) (atI_get (by omega) (by omega)) rfl fun q hq => ⟨_, hq, s.ldi (x := r.2.2.2.1) 0 3 rfl rfl ?_⟩)
    exact (s.view (j + 1) hj).idx (n := r.2.2.2.1.toNat) (by omega) (atI_get (by omega) (by omega)) rfl fun q hq => ⟨_, hq, intern_Pair_sp s (i + 1) hi fun w3 s => h _ s.pop⟩
  · simp only [if_neg c1, if_neg c2] at h
    have c3 : r.1 = 3 := by omega
    rw [placeB_3 c3, decide_eq_true_eq] at hp
    exact s.drawK fun w2 s => s.ldi (x := r.2.2.1) 0 2 rfl rfl ((s.view (j + 1) hj).idx (n := r.2.2.1.toNat) (by omega) (atI_get (by omega) (by omega)) rfl fun q hq => ⟨_, hq, s.ldi (x := r.2.2.2.2) 0 4 rfl rfl (intern_Power_sp s (i + 1) hi ht fun w3 s => h _ s.pop)⟩)

structure RuleOK (r : RT) : Prop where
  b : 0 ≤ r.2.1 ∧ r.2.1 < 256
  k : r.2.2.2.2 ≤ 9223372036854775807
theorem chkV_zero {r : RT} {n : Int} (h : chk r n = 0) : chkV r n = .nilIface := by unfold chkV; rw [if_pos h]
theorem chkV_bad {r : RT} {n : Int} (h : ¬ chk r n = 0) : chkV r n = errV (chk r n) := by unfold chkV; rw [if_neg h]

theorem intern_Import_sp {sl : Sl} {l : List yapi_Rule.T} (hr : ∀ r ∈ l, RuleOK r) (hll : l.length ≤ 2000000) (s : Sp w0 Ω w) (i : Nat) (hi : Ω[i]? = some (sto p most T)) (hv : ∀ w' Ω', Sp w0 (Ω' ++ Ω) w' → View yapi_Rule w' sl l) (hv2 : ∀ w' Ω' T', Sp w0 (Ω' ++ Ω.set i (sto p most T')) w' → View yapi_Rule w' sl l)
    {K : Int × Value → World → Prop} (h : ∀ w', Sp w0 (Ω.set i (sto p most (pImport T most l).1)) w' → K (pImport T most l).2 w') : C_intern_Store_Import (some p) sl K w := by
  apply S_intern_Store_Import
  unfold F_intern_Store_Import
  have hlen := (hv w [] s).len
  have hset : Ω.set i (sto p most T) = Ω := setSame hi
  refine gd_f rfl (loop_by (fun x => x.1) l.length (fun n _ w => bad l 1 = bad (l.drop n) ((n : Int) + 1) ∧ Sp w0 Ω w) rfl ⟨by simp, s⟩ ?_)
  rintro n ⟨x, _⟩ w1 hn hx ⟨hb, s⟩ _
  dsimp only at hx ⊢
  subst hx
  refine gd_dec (fun hlt => ?_) (fun hge => ?_)
  · have hn' : n < l.length := by omega
    have hd : l.drop n = l[n] :: l.drop (n + 1) := List.drop_eq_getElem_cons hn'
    refine (hv w1 [] s).idx rfl (List.getElem?_eq_getElem hn') rfl fun q hq => ⟨_, hq, s.allocK fun a5 w2 s => s.st0 0 rfl rfl rfl fun w3 s => s.ld0 0 rfl rfl (arith_i64 (by omega) (by omega) (rule_Check_spec (by omega) s fun w4 s => ?_))⟩
    rw [hd, bad_cons] at hb
    by_cases c : chk l[n] ((n : Int) + 1) = 0
    · rw [chkV_zero c]
      rw [if_pos c] at hb
      exact nilIfc_nil (gd_f rfl (arith_i64 (by omega) (by omega) (loop_nx hn' ⟨by rw [hb]; congr 1, s.pop⟩)))
    · rw [chkV_bad c]
      rw [if_neg c] at hb
      have hne : ¬ bad l 1 = 0 := by rw [hb]; exact c
      have hp : pImport T most l = (T, (0, errV (chk l[n] ((n : Int) + 1)))) := by unfold pImport; rw [if_neg hne, hb]
      rw [hp, hset] at h
      exact nilIfc_err (gd_t rfl (h _ s.pop))
  · have hn' : n = l.length := by omega
    subst hn'
    rw [List.drop_length] at hb
    have hb0 : bad l 1 = 0 := hb
    have hp : pImport T most l = pImps T most l [(0 : Int)] := by unfold pImport; rw [if_pos hb0]
    rw [hp] at h
    have hN : ((sl.len : Int) + 1).toNat = l.length + 1 := by omega
    refine arith_i64 (by omega) (by omega) ⟨by omega, by omega, by omega, by omega, s.mkS (.int .i64) (0 : Int) (l.length + 1) (l.length + 1) (Nat.le_refl _) (fun a12 w5 s => ?_) rfl (by rw [hN]; rfl)⟩
    rw [hN]
    obtain ⟨_, _, _, hm0, hm1, hm2, hg⟩ := Sp.entry s (i + 1) hi
    refine loop_by (fun x => x.1) l.length (fun n _ w => ∃ (T' : List ET) (ids : List (Ty.int .i64).T), pImps T most l [(0 : Int)] = pImps T' most (l.drop n) ids ∧ ids.length = n + 1 ∧
      Sp w0 (own (.int .i64) ⟨some ⟨a12, 0, none⟩, l.length + 1, l.length + 1⟩ (ids ++ List.replicate (l.length - n) (0 : Int)) :: Ω.set i (sto p most T')) w) rfl ⟨T, [(0 : Int)], by simp, rfl, by
        have e : [(0 : Int)] ++ List.replicate (l.length - 0) (0 : Int) = List.replicate (l.length + 1) (0 : Int) := by simp [List.replicate_succ]
        rw [hset]; exact e ▸ s⟩ ?_
    rintro n ⟨x, _⟩ w6 hn hx ⟨T', ids, hI, hil, s⟩ _
    dsimp only at hx ⊢
    subst hx
    have hi' : ∀ X, (Ω.set i X)[i]? = some X := fun X => setGet hi
    obtain ⟨_, _, _, hm0, hm1, hm2, hg⟩ := Sp.entry s (i + 1) (hi' _)
    refine gd_dec (fun hlt => ?_) (fun hge => ?_)
    · have hn' : n < l.length := by omega
      have hd : l.drop n = l[n] :: l.drop (n + 1) := List.drop_eq_getElem_cons hn'
      have hok := hr _ (List.getElem_mem hn')
      have hc : chk l[n] ((n : Int) + 1) = 0 := by
        have := bad_zero l 1 hb0 n l[n] (List.getElem?_eq_getElem hn')
        rw [← this]; congr 1; omega
      obtain ⟨hf, hpl⟩ := chk_form hc
      have hkind := form_kind hf
      refine (hv2 w6 [_] _ s).idx rfl (List.getElem?_eq_getElem hn') rfl fun q hq => ⟨_, hq, s.allocK fun a5 w2 s => s.st0 0 rfl rfl rfl fun w3 s => s.ld0 0 rfl rfl ?_⟩
      refine intern_put_sp hok.b hok.k hkind hpl (by simp; omega) s (i + 2) (hi' _) 1 rfl fun w7 s => ?_
      rw [pPut_append hpl (by omega) hkind] at s ⊢
      rw [hd, pImps_cons] at hI
      rcases isNilI_err (pPut_err (T := T') (most := most) (ids := ids) (r := l[n])) with ⟨e1, _, e2⟩ | ⟨e1, _, c, e2⟩
      · rw [e1, if_pos rfl] at hI
        rw [e2]
        refine nilIfc_nil (gd_f rfl (arith_i64 (by omega) (by omega) (s.setI 1 rfl (n := n + 1) rfl (by simp; omega) fun w8 s => arith_i64 (by omega) (by omega) (loop_nx hn' ⟨_, _, hI, by simp [hil], ?_⟩))))
        have e : (ids ++ List.replicate (l.length - n) (0 : Int)).set (n + 1) (pPut T' most ids l[n]).2.1 = (ids ++ [(pPut T' most ids l[n]).2.1]) ++ List.replicate (l.length - (n + 1)) (0 : Int) := by
          rw [List.set_append_right _ _ (by omega), hil, Nat.sub_self]
          rw [show l.length - n = (l.length - (n + 1)) + 1 by omega, List.replicate_succ]
          simp
        have s' : Sp w0 (own (.int .i64) ⟨some ⟨a12, 0, none⟩, l.length + 1, l.length + 1⟩ _ :: (Ω.set i (sto p most T')).set i (sto p most (pPut T' most ids l[n]).1)) w8 := s.pop
        rw [List.set_set] at s'
        exact e ▸ s'
      · rw [e1, if_neg (by decide)] at hI
        rw [e2]
        rw [hI] at h
        have s' : Sp w0 ((Ω.set i (sto p most T')).set i (sto p most (pPut T' most ids l[n]).1)) w7 := s.drop 2
        rw [List.set_set] at s'
        have := h _ s'
        dsimp only at this
        rw [e2] at this
        exact nilIfc_err (gd_t rfl this)
    · have hn' : n = l.length := by omega
      subst hn'
      rw [List.drop_length] at hI
      rw [hI] at h
      rw [Nat.sub_self, List.replicate_zero, List.append_nil] at s
      have hlast : ids[l.length]? = some (ids.getLastD (0 : Int)) := by
        rw [List.getLastD_eq_getLast?, List.getLast?_eq_getElem?, hil]
        simp only [Nat.add_sub_cancel]
        rw [List.getElem?_eq_getElem (by omega)]
        rfl
      refine (s.view 0 rfl).idx (n := l.length) (by omega) hlast rfl fun q hq => ⟨_, hq, h _ s.pop⟩

end Go.Proofs.Ytddhndabnbckmaa

/- The import by the specification, and the walk of InternImports. -/
set_option linter.unusedVariables false
set_option linter.unusedSimpArgs false
namespace Go.Proofs.Ytddhndabnbckmaa
open Go.Den

variable {w0 w : World} {Ω : List Ob} {most : Int} {T : List ET} {i j : Nat} {m : yevergreenref10_S.T} {p : Addr}

theorem ref10_Import_spec {sl : Sl} {l : List yapi_Rule.T} (hr : ∀ r ∈ l, RuleOK r) (hll : l.length ≤ 2000000) (hg : Grow T) (hT : (T.length : Int) ≤ most) (hm : most ≤ 1048576) (s : Sp w0 Ω w) (j : Nat) (hj : Ω[j]? = some (rfs m most T)) (hv : ∀ w' Ω', Sp w0 (Ω' ++ Ω) w' → View yapi_Rule w' sl l)
    {K : yevergreenref10_S.T × Int × Int → World → Prop} (h : ∀ m' w', Sp w0 (rfs m' most (pImport T most l).1 :: Ω) w' → K (m', (pImport T most l).2.1, codeOf (pImport T most l).2.2) w') : C_ref10_Import m sl K w := by
  apply S_ref10_Import
  unfold F_ref10_Import
  have hlen := (hv w [] s).len
  refine s.allocK fun a1 w1 s => s.allocK fun a2 w2 s => ?_
  refine loop_by (fun x => x.1) l.length (fun n _ w => bad l 1 = bad (l.drop n) ((n : Int) + 1) ∧ Sp w0 (cel a2 [.int .i64 (0 : Int), .slice none 0 0, .slice none 0 0, .slice none 0 0] :: cel a1 (cells yevergreenref10_S m) :: Ω) w) rfl ⟨by simp, s⟩ ?_
  rintro n ⟨x, _⟩ w3 hn hx ⟨hb, s⟩ _
  dsimp only at hx ⊢
  subst hx
  refine gd_dec (fun hlt => ?_) (fun hge => ?_)
  · have hn' : n < l.length := by omega
    have hd : l.drop n = l[n] :: l.drop (n + 1) := List.drop_eq_getElem_cons hn'
    refine (hv w3 [_, _] s).idx rfl (List.getElem?_eq_getElem hn') rfl fun q hq => ⟨_, hq, arith_i64 (by omega) (by omega) (ref10_Check_spec s fun w4 s => ?_)⟩
    rw [hd, bad_cons] at hb
    by_cases c : chk l[n] ((n : Int) + 1) = 0
    · rw [if_pos c] at hb
      exact gd_f (by simp [c]) (arith_i64 (by omega) (by omega) (loop_nx hn' ⟨by rw [hb]; congr 1, s⟩))
    · rw [if_neg c] at hb
      have hne : ¬ bad l 1 = 0 := by rw [hb]; exact c
      have hp : pImport T most l = (T, (0, errV (chk l[n] ((n : Int) + 1)))) := by unfold pImport; rw [if_neg hne, hb]
      rw [hp] at h
      exact gd_t (by simp [c]) (s.ld0 1 rfl rfl (s.st0 0 rfl rfl rfl fun w5 s => s.ld0 0 rfl rfl (h _ _ ((s.drop 2).dup j hj rfl))))
  · have hn' : n = l.length := by omega
    subst hn'
    rw [List.drop_length] at hb
    have hb0 : bad l 1 = 0 := hb
    have hp : pImport T most l = pImps T most l [(0 : Int)] := by unfold pImport; rw [if_pos hb0]
    rw [hp] at h
    refine s.allocK fun a12 w6 s => ?_
    refine loop_by (fun x => x.2.1) l.length (fun n x w => ∃ (T' : List ET) (ids : List (Ty.int .i64).T) (m' : yevergreenref10_S.T), pImps T most l [(0 : Int)] = pImps T' most (l.drop n) ids ∧ ids.length = n + 1 ∧ Grow T' ∧ (T'.length : Int) ≤ most ∧
      Sp w0 (rfs m' most T' :: own (.int .i64) x.1 ids :: cel a2 [.int .i64 (0 : Int), .slice none 0 0, .slice none 0 0, .slice none 0 0] :: cel a1 (cells yevergreenref10_S m') :: Ω) w) rfl
      ⟨T, [(0 : Int)], m, by simp, rfl, hg, hT, (s.lit (ty := .int .i64) 0 rfl [(0 : Int)] 1 rfl rfl).dup (j + 3) hj rfl⟩ ?_
    rintro n ⟨to, x, _⟩ w7 hn hx ⟨T', ids, m', hI, hil, hg', hT', s⟩ _
    dsimp only at hx s ⊢
    subst hx
    refine gd_dec (fun hlt => ?_) (fun hge => ?_)
    · have hn' : n < l.length := by omega
      have hd : l.drop n = l[n] :: l.drop (n + 1) := List.drop_eq_getElem_cons hn'
      have hok := hr _ (List.getElem_mem hn')
      have hc : chk l[n] ((n : Int) + 1) = 0 := by
        have := bad_zero l 1 hb0 n l[n] (List.getElem?_eq_getElem hn')
        rw [← this]; congr 1; omega
      obtain ⟨hf, hpl⟩ := chk_form hc
      have hkind := form_kind hf
      refine (hv w7 [_, _, _, _] s).idx rfl (List.getElem?_eq_getElem hn') rfl fun q hq => ⟨_, hq, s.allocK fun a17 w8 s => s.st0 0 rfl rfl rfl fun w9 s => ?_⟩
      rw [hd, pImps_cons] at hI
      generalize l[n] = r at *
      refine ⟨fun x w => ∃ m'', x.1 = (pPut T' most ids r).2.1 ∧ x.2.1 = codeOf (pPut T' most ids r).2.2 ∧ Sp w0 (rfs m'' most (pPut T' most ids r).1 :: cel a17 (cells yapi_Rule r) :: own (.int .i64) to ids :: cel a2 [.int .i64 (0 : Int), .slice none 0 0, .slice none 0 0, .slice none 0 0] :: cel a1 (cells yevergreenref10_S m'') :: Ω) w, ?_, ?_⟩
      · refine s.ldi (x := r.1) 0 0 rfl rfl (gd_eq (fun c1 => ?_) (fun c1 => gd_eq (fun c2 => ?_) (fun c2 => ?_)))
        · have e : pPut T' most ids r = pLetter T' most r.2.1 := by unfold pPut; rw [if_pos c1]
          rw [e]
          exact s.ld0 4 rfl rfl (s.ldi (x := r.2.1) 0 1 rfl rfl (ref10_Letter_spec s 1 rfl (by omega) fun m'' w10 s => s.st0 5 rfl rfl rfl fun w11 s => ⟨m'', rfl, rfl, s.pick [0, 1, 3, 4, 5] 6 rfl (by decide)⟩))
        · have e : pPut T' most ids r = pPair T' most (atI ids r.2.2.1) (atI ids r.2.2.2.1) := by unfold pPut; rw [if_neg c1, if_pos c2]
          rw [e]
          rw [placeB_2 c2, decide_eq_true_eq] at hpl
          refine s.drawK fun w10 s => s.ld0 4 rfl rfl (s.ldi (x := r.2.2.1) 0 2 rfl rfl ((s.view 2 rfl).idx (n := r.2.2.1.toNat) (by omega) (atI_get (by omega) (by omega)) rfl fun q hq => ⟨_, hq, s.ldi (x := r.2.2.2.1) 0 3 rfl rfl ?_⟩))
          refine (s.view 2 rfl).idx (n := r.2.2.2.1.toNat) (by omega) (atI_get (by omega) (by omega)) rfl fun q hq => ⟨_, hq, ?_⟩
          exact ref10_Pair_spec hg' s 1 rfl (by omega) fun m'' w10 s => s.st0 5 rfl rfl rfl fun w11 s => ⟨m'', rfl, rfl, s.pick [0, 1, 3, 4, 5] 6 rfl (by decide)⟩
        · have c3 : r.1 = 3 := (hkind.resolve_left c1).resolve_left c2
          have e : pPut T' most ids r = pPower T' most (atI ids r.2.2.1) r.2.2.2.2 := by unfold pPut; rw [if_neg c1, if_neg c2]
          rw [e]
          rw [placeB_3 c3, decide_eq_true_eq] at hpl
          refine s.drawK fun w10 s => s.ld0 4 rfl rfl (s.ldi (x := r.2.2.1) 0 2 rfl rfl ((s.view 2 rfl).idx (n := r.2.2.1.toNat) (by omega) (atI_get (by omega) (by omega)) rfl fun q hq => ⟨_, hq, s.ldi (x := r.2.2.2.2) 0 4 rfl rfl ?_⟩))
          exact ref10_Power_spec hg' s 1 rfl (by omega) hok.k fun m'' w10 s => s.st0 5 rfl rfl rfl fun w11 s => ⟨m'', rfl, rfl, s.pick [0, 1, 3, 4, 5] 6 rfl (by decide)⟩
      · rintro ⟨x1, x2, _⟩ w10 ⟨m'', h1, h2, s⟩ _
        dsimp only at h1 h2 ⊢
        subst h1 h2
        obtain ⟨hg2, hT2⟩ := pPut_grow (ids := ids) hg' hT' hok.b
        rcases isNilI_err (pPut_err (T := T') (most := most) (ids := ids) (r := r)) with ⟨e1, e0, e2⟩ | ⟨e1, e0, c, e2⟩
        · rw [e1, if_pos rfl] at hI
          refine gd_f (by simp [e0]) (s.allocK fun a40 w11 s => s.app 3 rfl ((s.lit (ty := .int .i64) 0 rfl [(pPut T' most ids r).2.1] 1 rfl rfl).view 0 rfl) (by simp only [List.length_cons, List.length_nil]; omega) fun s41 w12 s => arith_i64 (by omega) (by omega) (loop_nx hn' ⟨_, _, m'', hI, by simp [hil], hg2, hT2, ?_⟩))
          exact s.pick [1, 3, 4, 5] 6 rfl (by decide)
        · rw [e1, if_neg (by decide)] at hI
          rw [hI] at h
          refine gd_t (by simp [e0]) (s.ld0 4 rfl rfl (s.st0 3 rfl rfl rfl fun w11 s => s.ld0 3 rfl rfl (h _ _ (s.pick [0] 5 rfl (by decide)))))
    · have hn' : n = l.length := by omega
      subst hn'
      rw [List.drop_length] at hI
      rw [hI] at h
      have hlast : ids[l.length]? = some (ids.getLastD (0 : Int)) := by
        rw [List.getLastD_eq_getLast?, List.getLast?_eq_getElem?, hil]
        simp only [Nat.add_sub_cancel]
        rw [List.getElem?_eq_getElem (by omega)]
        rfl
      have hto := (s.view 1 rfl).len
      exact s.drawK fun w8 s => s.ld0 3 rfl rfl (arith_i64 (by omega) (by omega) ((s.view 1 rfl).idx2 (n := l.length) (by omega) hlast rfl fun q hq => ⟨_, hq _ (s.view 1 rfl), s.st0 2 rfl rfl rfl fun w9 s => ⟨hq _ (s.view 1 rfl), s.ld0 2 rfl rfl (h _ _ (s.pick [0] 4 rfl (by decide)))⟩⟩))

theorem pImps_err : ∀ (l : List RT) (T : List ET) (ids : List (Ty.int .i64).T), IsErr (pImps T most l ids).2.2
  | [], T, ids => Or.inl rfl
  | r :: rs, T, ids => by
    rw [pImps_cons]
    split
    · exact pImps_err rs _ _
    · exact pPut_err
theorem pImport_err {l : List RT} : IsErr (pImport T most l).2.2 := by
  unfold pImport
  split
  · exact pImps_err _ _ _
  · exact Or.inr ⟨_, ‹_›, rfl⟩
theorem law10_InternImports_spec {n : Int} {sl sl2 : Sl} {ops : List OT} {l : List yapi_Rule.T} (hv : View yevergreenlaw10_Op w0 sl ops) (ho : ∀ o ∈ ops, OpOK o) (hv2 : View yapi_Rule w0 sl2 l) (hr : ∀ r ∈ l, RuleOK r) {K : Bool → World → Prop} (h : ∀ w', Ext w0 w' → K true w') : C_law10_InternImports n sl sl2 K w0 := by
  apply S_law10_InternImports
  unfold F_law10_InternImports
  have hlen2 := hv2.len
  refine ⟨fun x w => x.1 = decide (¬ (sl.len ≤ 60 ∧ sl2.len ≤ 60)) ∧ Ext w0 w, law10_awake_spec fun w1 e1 => gd_f rfl (law10_few_spec ?_), ?_⟩
  · by_cases c : (sl.len : Int) ≤ 60
    · refine gd_f (by simp [c]) ⟨?_, e1⟩
      exact decide_eq_decide.2 (by omega)
    · exact gd_t (by simp [c]) ⟨(decide_eq_true (by omega)).symm, e1⟩
  rintro ⟨x, _⟩ w1 ⟨hx, e1⟩ _
  dsimp only at hx
  by_cases c : sl.len ≤ 60 ∧ sl2.len ≤ 60
  rotate_left
  · exact gd_t (by rw [hx]; exact decide_eq_true c) (law10_awake_spec fun w2 e2 => h _ (e1.trans e2))
  refine gd_f (by rw [hx]; exact decide_eq_false (not_not_intro c)) ?_
  refine law10_Built_spec ((Sp.init w0).toExt e1) hv ho (by omega) fun p m T w3 s => s.allocK fun a7 w4 s => s.st0 0 rfl rfl rfl fun w5 s => gd_f rfl (s.allocK fun a8 w6 s => ?_)
  refine (s.lit (ty := yapi_Rule) 0 rfl [] 0 rfl rfl).app 0 rfl (hv2.ext s.ext) (by simp only [List.length_nil]; omega) fun s9 w7 s => ?_
  rw [List.nil_append] at s
  obtain ⟨_, _, _, hm0, hm1, hm2, hg⟩ := Sp.entry s 3 rfl
  refine intern_Import_sp hr (by omega) s 3 rfl (fun w' Ω' s => s.view (Ω'.length + 0) (by rw [List.getElem?_append_right (by omega)]; simp)) (fun w' Ω' T' s => s.view (Ω'.length + 0) (by rw [List.getElem?_append_right (by omega)]; simp)) fun w8 s => s.ld0 1 rfl rfl ?_
  refine ref10_Import_spec hr (by omega) hg hm2 hm1 s 2 rfl (fun w' Ω' s => hv2.ext s.ext) fun m' w9 s => s.st0 2 rfl rfl rfl fun w10 s => ?_
  obtain ⟨hlen, hmo⟩ := rfs_len s 0 rfl
  refine JoinP.inl (s.drawK fun w11 s => gd_f (by simp) (base_Num_spec pImport_err (gd_f (by simp) (s.lds (x := m'.2.1) 2 1 rfl rfl (intern_Len_sp s 4 rfl ⟨s.still 2 1 rfl rfl, gd_f (by rw [hlen]; simp) ?_⟩)))))
  refine ref10_Same_spec (xs := l) (ys := l) s (fun w' s => s.view 1 rfl) (fun w' s => hv2.ext s.ext) (by omega) fun w12 s => ?_
  rw [decide_eq_true rfl]
  intro _
  refine gd_f rfl (s.lds (x := m'.2.1) 2 1 rfl rfl ?_)
  obtain ⟨_, _, _, hm0', hm1', hm2', hg'⟩ := Sp.entry s 4 rfl
  refine loop_by (fun x => x.1) (pImport T (clip20 n) l).1.length (fun n' _ w => ∃ Ω', Sp w0 (rfs m' (clip20 n) (pImport T (clip20 n) l).1 :: own yapi_Rule s9 l :: cel a7 (cells yevergreenref10_S m') :: rfs m (clip20 n) T :: sto p (clip20 n) (pImport T (clip20 n) l).1 :: Ω') w) rfl ⟨_, s⟩ ?_
  rintro k ⟨x, _⟩ w13 hk hx ⟨Ω', s⟩ _
  dsimp only at hx ⊢
  subst hx
  refine gd_dec (fun hlt => ?_) (fun hge => h _ s.ext)
  have hk' : k < (pImport T (clip20 n) l).1.length := by omega
  refine arith_i64 (by omega) (by omega) (intern_Rule_k s 4 rfl (by omega) fun w14 s => s.allocK fun a24 w15 s => s.st0 0 rfl rfl rfl fun w16 s => ?_)
  refine JoinP.inl (s.drawK fun w17 s => nilIfc_nil (gd_f rfl (s.ld0 0 rfl rfl (s.lds (x := m'.2.1) 3 1 rfl rfl ?_))))
  refine (Sp.rfs_ s 1 rfl).2.1.idx rfl (rulesOf_get hk') rfl fun q hq => ⟨_, hq, rule_neq fun _ => gd_f (by simp) (arith_i64 (by omega) (by omega) (loop_nx hk' ⟨_, s.pop⟩))⟩

theorem ruleOK_of {r : RT} (h : wfT yapi_Rule r) : RuleOK r := by
  obtain ⟨_, h2, _, _, h5⟩ := h
  exact ⟨u8_range h2, (i64_range h5).2⟩

end Go.Proofs.Ytddhndabnbckmaa
