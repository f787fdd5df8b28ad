/- Texts that belong together, joined: RefK, RefL, RefM, GarA, GarB, GarC, GarD, GarE, ImpB, Copy, LawDE, GarF, GarG, GarH, GarI. No conditions. -/
import Derived.Test.YtnmgjpcooncjlaaGreatGD
import Derived.Test.YtnmgjpcooncjlaaGreatGC
import Derived.Test.YtnmgjpcooncjlaaGreatGB
/- The specification's stores (evergreenref12): Known, Length, Add. The walk of Add's orders of evaluation is printed by wip/gen/walk12.py. -/
set_option linter.unusedVariables false
set_option linter.unusedSimpArgs false
namespace Go.Proofs.YtnmgjpcooncjlaaGreat
open Go.Den

variable {w0 w : World} {Ω : List Ob} {most : Int} {T : List ET} {j : Nat} {m : yevergreenref12_Store.T}

/-- the specification's store of the rules T -/
def rf2 (m : yevergreenref12_Store.T) (T : List ET) : Ob :=
  ⟨true, fun B w => View yapi_Rule w m.1 (rulesOf T) ∧ View (.int .i64) w m.2 (lensOf T) ∧ @LE.le Nat _ m.1.len m.1.cap ∧ ∀ b, blk m.1 b ∨ blk m.2 b → B b,
    fun h f hB => ⟨h.1.fr f fun b hb => hB b (h.2.2.2 b (Or.inl hb)), h.2.1.fr f fun b hb => hB b (h.2.2.2 b (Or.inr hb)), h.2.2.1, h.2.2.2⟩⟩
theorem Sp.rf2_ (s : Sp w0 Ω w) (j : Nat) (h : Ω[j]? = some (rf2 m T)) : View yapi_Rule w m.1 (rulesOf T) ∧ View (.int .i64) w m.2 (lensOf T) := by
  obtain ⟨B, h, _⟩ := s.get j h
  exact ⟨h.1, h.2.1⟩
theorem Sp.rf2c (s : Sp w0 Ω w) (j : Nat) (h : Ω[j]? = some (rf2 m T)) : @LE.le Nat _ m.1.len m.1.cap := by
  obtain ⟨B, h, _⟩ := s.get j h
  exact h.2.2.1
theorem Sp.rf20 (s : Sp w0 Ω w) : Sp w0 (rf2 ((⟨none, 0, 0⟩ : Sl), (⟨none, 0, 0⟩ : Sl)) [] :: Ω) w := by
  refine s.push (B := fun _ => False) (.refl _ _) ⟨.nil, .nil, Nat.le_refl _, ?_⟩ (fun _ h => h.elim)
  rintro b (h | h) <;> exact blk_none h
theorem ref12_Known_spec {id : Int} (s : Sp w0 Ω w) (j : Nat) (hj : Ω[j]? = some (rf2 m T)) {K : Bool → World → Prop} (h : ∀ w', Sp w0 Ω w' → K (known T id) w') : C_ref12_Known m id K w := by
  apply S_ref12_Known
  unfold F_ref12_Known
  have e := (Sp.rf2_ s j hj).1.len
  rw [rulesOf_len] at e
  refine s.allocK fun b w1 s1 => gd_dec (fun h1 => s1.lds (x := m.1) 0 0 rfl rfl ?_) (fun h1 => ?_)
  · have : decide (id ≤ (m.1.len : Int)) = known T id := by rw [e, known]; exact decide_eq_decide.2 (by omega)
    rw [this]; exact h _ s1.pop
  · have : false = known T id := by simp [known]; omega
    rw [this]; exact h _ s1.pop
theorem ref12_Length_spec {id : Int} (s : Sp w0 Ω w) (j : Nat) (hj : Ω[j]? = some (rf2 m T)) (hk : known T id = true) (hl : T.length ≤ 1048576) {K : Int → World → Prop} (h : ∀ w', Sp w0 Ω w' → K (eAt T id).2.1.1 w') : C_ref12_Length m id K w := by
  apply S_ref12_Length
  unfold F_ref12_Length
  refine s.allocK fun b w1 s1 => gd_eq (fun e => ?_) (fun e => ?_)
  · subst e; exact h _ s1.pop
  · have hk' := of_decide_eq_true hk
    have h3 := eAt_get (L := T) (id := id) (by omega) hk'.2
    have hv := (Sp.rf2_ s1 (j + 1) hj).2
    exact s1.lds (x := m.2) 0 1 rfl rfl (arith_i64 (by omega) (by omega) (hv.idx (n := (id - 1).toNat) (x := (eAt T id).2.1.1) (by omega) (by rw [lensOf, List.getElem?_map, h3]; rfl) rfl fun q hq => ⟨_, hq, h _ s1.pop⟩))

theorem lkR_no {L : List ET} {r : RT} (h : lkR L r = none) : ∀ e ∈ L, e.1 ≠ r := by
  intro e he hr
  unfold lkR lk at h
  rw [Option.map_eq_none_iff, List.find?_eq_none] at h
  obtain ⟨n, hn⟩ := List.getElem?_of_mem he
  have hm : (e.1, (n : Int) + 1) ∈ idx L := by unfold idx; exact List.mem_map.2 ⟨(e, n), List.mem_zipIdx_iff_getElem?.2 hn, rfl⟩
  exact h _ hm ((beqT_iff yapi_Rule rfl _ _).2 hr.symm)
set_option maxHeartbeats 0 in
theorem ref12_Add_new {e : ET} {len : Int} (hlen : len = e.2.1.1) (s : Sp w0 Ω w) (j : Nat) (hj : Ω[j]? = some (rf2 m T)) (hl : T.length < 1048576) (hn : lkR T e.1 = none) {K : yevergreenref12_Store.T × Int → World → Prop}
    (h0 : ∀ m' w', Sp w0 (rf2 m' (T ++ [e]) :: Ω) w' → K (m', (T.length : Int) + 1) w') : C_ref12_Add m e.1 len K w := by
  apply S_ref12_Add
  unfold F_ref12_Add
  refine s.allocK fun a1 w1 s => s.allocK fun a2 w2 s => s.allocK fun a3 w3 s => ?_
  have hlr := (Sp.rf2_ s (j + 3) hj).1.len
  rw [rulesOf_len] at hlr
  have hrl := rulesOf_len T
  have hll := lensOf_len T
  refine loop_by (fun x => x.1) T.length (fun n _ w => Sp w0 (cel a3 [.slice none 0 0, .slice none 0 0] :: cel a2 (cells yapi_Rule e.1) :: cel a1 (cells yevergreenref12_Store m) :: Ω) w) rfl s ?_
  rintro n ⟨x, _⟩ w4 hnn hx s _
  dsimp only at hx ⊢
  subst hx
  refine s.lds (x := m.1) 2 0 rfl rfl (gd_dec (fun hlt => s.drawK fun w5 s => s.lds (x := m.1) 2 0 rfl rfl ?_) (fun hge => ?_))
  · have hn' : n < T.length := by omega
    have he : T[n]? = some T[n] := List.getElem?_eq_getElem hn'
    refine (Sp.rf2_ s (j + 3) hj).1.idx rfl (x := T[n].1) (by rw [rulesOf, List.getElem?_map, he]; rfl) rfl fun q hq => ⟨_, hq, s.ld0 1 rfl rfl (rule_eql (gd_dec (fun e1 => ?_) (fun e1 => arith_i64 (by omega) (by omega) (loop_nx hn' s))))⟩
    exact absurd e1 (lkR_no hn _ (List.getElem_mem hn'))
  · have h : ∀ (sA sB : Sl) w', Sp w0 (own yapi_Rule sA (rulesOf T ++ [e.1]) :: own (.int .i64) sB (lensOf T ++ [len]) :: Ω) w' → K ((sA, sB), (m.1.len : Int) + 1) w' := fun sA sB w' s => by
      rw [hlr]
      refine h0 (sA, sB) _ (s.fold 2 _ (Or.inl rfl) fun f hP _ => ?_)
      have o1 := (hP 0 _ (by decide) rfl).1
      have o2 := (hP 1 _ (by decide) rfl).1
      refine ⟨?_, ?_, o1.1.cap, ?_⟩
      · rw [rulesOf_append]; exact o1.1.view
      · rw [lensOf_append, ← hlen]; exact o2.1.view
      · rintro b (hb | hb)
        · exact ⟨0, by decide, by simp, o1.2 b hb⟩
        · exact ⟨1, by decide, by simp, o2.2 b hb⟩
    have b1 : (([] : List yapi_Rule.T).length + (rulesOf T).length) * 40 ≤ 140737488355328 := by simp only [List.length_nil]; omega
    have b2 : ((([] : List yapi_Rule.T) ++ rulesOf T).length + [e.1].length) * 40 ≤ 140737488355328 := by simp only [List.nil_append, List.length_cons, List.length_nil]; omega
    have b3 : (([] : List (Ty.int .i64).T).length + (lensOf T).length) * 8 ≤ 140737488355328 := by simp only [List.length_nil]; omega
    have b4 : ((([] : List (Ty.int .i64).T) ++ lensOf T).length + [len].length) * 8 ≤ 140737488355328 := by simp only [List.nil_append, List.length_cons, List.length_nil]; omega
    refine s.drawK fun w7 s => s.lds (x := m.1) 2 0 rfl rfl (s.ld0 (ty := yapi_Rule) (x := e.1) 1 rfl rfl (s.lds (x := m.2) 2 1 rfl rfl (s.lds (x := m.1) 2 0 rfl rfl (arith_i64 (by omega) (by omega) ?_))))
    exact
⟨s.allocK fun a21 w8 s => ⟨s.still 3 0 rfl rfl, ⟨s.still 3 1 rfl rfl, ⟨s.at_ 2 rfl, ⟨s.still 3 0 rfl rfl, ⟨(s.lit (ty := yapi_Rule) 0 rfl [] 0 rfl rfl).app 0 rfl (Sp.rf2_ s (j + 4) hj).1 b1 fun s22 w9 s => ⟨s.still 3 0 rfl rfl, ⟨s.still 3 1 rfl rfl, ⟨s.at_ 2 rfl, ⟨s.allocK fun a23 w10 s => ⟨s.still 4 0 rfl rfl, ⟨s.still 4 1 rfl rfl, ⟨s.app 1 rfl ((s.lit (ty := yapi_Rule) 0 rfl [e.1] 1 (by simp [flat]) rfl).view 0 rfl) b2 fun s24 w11 s => ⟨s.still 4 0 rfl rfl, ⟨s.still 4 1 rfl rfl, ⟨s.allocK fun a25 w12 s => ⟨s.still 5 0 rfl rfl, ⟨s.still 5 1 rfl rfl, ⟨(s.lit (ty := .int .i64) 0 rfl [] 0 rfl rfl).app 0 rfl (Sp.rf2_ s (j + 6) hj).2 b3 fun s26 w13 s => ⟨s.still 5 0 rfl rfl, s.allocK fun a27 w14 s => ⟨s.still 6 0 rfl rfl, s.app 1 rfl ((s.lit (ty := .int .i64) 0 rfl [len] 1 rfl rfl).view 0 rfl) b4 fun s28 w15 s => ⟨s.still 6 0 rfl rfl, s.st0 4 rfl rfl rfl fun w16 s => ⟨s.still 6 0 rfl rfl, s.ld0 (ty := yevergreenref12_Store) (x := (s24, s28)) 4 rfl rfl (h _ _ _ (s.pick [3, 1] 7 rfl (by decide)))⟩⟩⟩⟩,
s.allocK fun a30 w17 s => ⟨s.still 6 0 rfl rfl, ⟨s.still 6 1 rfl rfl, (s.lit (ty := .int .i64) 1 rfl [] 0 rfl rfl).app 1 rfl (Sp.rf2_ s (j + 7) hj).2 b3 fun s31 w18 s => ⟨s.still 6 0 rfl rfl, s.app 1 rfl ((s.lit (ty := .int .i64) 0 rfl [len] 1 rfl rfl).view 0 rfl) b4 fun s32 w19 s => ⟨s.still 6 0 rfl rfl, s.st0 4 rfl rfl rfl fun w20 s => ⟨s.still 6 0 rfl rfl, s.ld0 (ty := yevergreenref12_Store) (x := (s24, s32)) 4 rfl rfl (h _ _ _ (s.pick [3, 1] 7 rfl (by decide)))⟩⟩⟩⟩⟩⟩⟩⟩,
s.allocK fun a34 w21 s => ⟨s.still 5 0 rfl rfl, ⟨s.still 5 1 rfl rfl, s.allocK fun a35 w22 s => ⟨s.still 6 0 rfl rfl, ⟨s.still 6 1 rfl rfl, (s.lit (ty := .int .i64) 0 rfl [] 0 rfl rfl).app 0 rfl (Sp.rf2_ s (j + 7) hj).2 b3 fun s36 w23 s => ⟨s.still 6 0 rfl rfl, s.app 0 rfl ((s.lit (ty := .int .i64) 1 rfl [len] 1 rfl rfl).view 1 rfl) b4 fun s37 w24 s => ⟨s.still 6 0 rfl rfl, s.st0 4 rfl rfl rfl fun w25 s => ⟨s.still 6 0 rfl rfl, s.ld0 (ty := yevergreenref12_Store) (x := (s24, s37)) 4 rfl rfl (h _ _ _ (s.pick [3, 0] 7 rfl (by decide)))⟩⟩⟩⟩⟩⟩⟩⟩⟩⟩,
⟨s.allocK fun a39 w26 s => ⟨s.still 5 0 rfl rfl, ⟨s.still 5 1 rfl rfl, ⟨s.app 2 rfl ((s.lit (ty := yapi_Rule) 1 rfl [e.1] 1 (by simp [flat]) rfl).view 1 rfl) b2 fun s40 w27 s => ⟨s.still 5 0 rfl rfl, ⟨s.still 5 1 rfl rfl, ⟨(s.lit (ty := .int .i64) 0 rfl [] 0 rfl rfl).app 0 rfl (Sp.rf2_ s (j + 6) hj).2 b3 fun s41 w28 s => ⟨s.still 5 0 rfl rfl, s.allocK fun a42 w29 s => ⟨s.still 6 0 rfl rfl, s.app 1 rfl ((s.lit (ty := .int .i64) 0 rfl [len] 1 rfl rfl).view 0 rfl) b4 fun s43 w30 s => ⟨s.still 6 0 rfl rfl, s.st0 4 rfl rfl rfl fun w31 s => ⟨s.still 6 0 rfl rfl, s.ld0 (ty := yevergreenref12_Store) (x := (s40, s43)) 4 rfl rfl (h _ _ _ (s.pick [3, 1] 7 rfl (by decide)))⟩⟩⟩⟩,
s.allocK fun a45 w32 s => ⟨s.still 6 0 rfl rfl, ⟨s.still 6 1 rfl rfl, (s.lit (ty := .int .i64) 1 rfl [] 0 rfl rfl).app 1 rfl (Sp.rf2_ s (j + 7) hj).2 b3 fun s46 w33 s => ⟨s.still 6 0 rfl rfl, s.app 1 rfl ((s.lit (ty := .int .i64) 0 rfl [len] 1 rfl rfl).view 0 rfl) b4 fun s47 w34 s => ⟨s.still 6 0 rfl rfl, s.st0 4 rfl rfl rfl fun w35 s => ⟨s.still 6 0 rfl rfl, s.ld0 (ty := yevergreenref12_Store) (x := (s40, s47)) 4 rfl rfl (h _ _ _ (s.pick [3, 1] 7 rfl (by decide)))⟩⟩⟩⟩⟩⟩⟩⟩,
s.allocK fun a49 w36 s => ⟨s.still 6 0 rfl rfl, ⟨s.still 6 1 rfl rfl, s.app 3 rfl ((s.lit (ty := yapi_Rule) 2 rfl [e.1] 1 (by simp [flat]) rfl).view 2 rfl) b2 fun s50 w37 s => ⟨s.still 6 0 rfl rfl, ⟨s.still 6 1 rfl rfl, (s.lit (ty := .int .i64) 1 rfl [] 0 rfl rfl).app 1 rfl (Sp.rf2_ s (j + 7) hj).2 b3 fun s51 w38 s => ⟨s.still 6 0 rfl rfl, s.app 1 rfl ((s.lit (ty := .int .i64) 0 rfl [len] 1 rfl rfl).view 0 rfl) b4 fun s52 w39 s => ⟨s.still 6 0 rfl rfl, s.st0 4 rfl rfl rfl fun w40 s => ⟨s.still 6 0 rfl rfl, s.ld0 (ty := yevergreenref12_Store) (x := (s50, s52)) 4 rfl rfl (h _ _ _ (s.pick [3, 1] 7 rfl (by decide)))⟩⟩⟩⟩⟩⟩⟩⟩⟩⟩,
s.allocK fun a54 w41 s => ⟨s.still 5 0 rfl rfl, ⟨s.still 5 1 rfl rfl, ⟨s.app 2 rfl ((s.lit (ty := yapi_Rule) 1 rfl [e.1] 1 (by simp [flat]) rfl).view 1 rfl) b2 fun s55 w42 s => ⟨s.still 5 0 rfl rfl, ⟨s.still 5 1 rfl rfl, s.allocK fun a56 w43 s => ⟨s.still 6 0 rfl rfl, ⟨s.still 6 1 rfl rfl, (s.lit (ty := .int .i64) 0 rfl [] 0 rfl rfl).app 0 rfl (Sp.rf2_ s (j + 7) hj).2 b3 fun s57 w44 s => ⟨s.still 6 0 rfl rfl, s.app 0 rfl ((s.lit (ty := .int .i64) 1 rfl [len] 1 rfl rfl).view 1 rfl) b4 fun s58 w45 s => ⟨s.still 6 0 rfl rfl, s.st0 4 rfl rfl rfl fun w46 s => ⟨s.still 6 0 rfl rfl, s.ld0 (ty := yevergreenref12_Store) (x := (s55, s58)) 4 rfl rfl (h _ _ _ (s.pick [3, 0] 7 rfl (by decide)))⟩⟩⟩⟩⟩⟩⟩,
s.allocK fun a60 w47 s => ⟨s.still 6 0 rfl rfl, ⟨s.still 6 1 rfl rfl, s.app 3 rfl ((s.lit (ty := yapi_Rule) 2 rfl [e.1] 1 (by simp [flat]) rfl).view 2 rfl) b2 fun s61 w48 s => ⟨s.still 6 0 rfl rfl, ⟨s.still 6 1 rfl rfl, (s.lit (ty := .int .i64) 0 rfl [] 0 rfl rfl).app 0 rfl (Sp.rf2_ s (j + 7) hj).2 b3 fun s62 w49 s => ⟨s.still 6 0 rfl rfl, s.app 0 rfl ((s.lit (ty := .int .i64) 1 rfl [len] 1 rfl rfl).view 1 rfl) b4 fun s63 w50 s => ⟨s.still 6 0 rfl rfl, s.st0 4 rfl rfl rfl fun w51 s => ⟨s.still 6 0 rfl rfl, s.ld0 (ty := yevergreenref12_Store) (x := (s61, s63)) 4 rfl rfl (h _ _ _ (s.pick [3, 0] 7 rfl (by decide)))⟩⟩⟩⟩⟩⟩⟩⟩⟩⟩⟩⟩⟩⟩,
⟨s.allocK fun a65 w52 s => ⟨s.still 4 0 rfl rfl, ⟨s.still 4 1 rfl rfl, ⟨s.at_ 3 rfl, ⟨s.allocK fun a66 w53 s => ⟨s.still 5 0 rfl rfl, ⟨s.still 5 1 rfl rfl, ⟨s.app 2 rfl ((s.lit (ty := yapi_Rule) 0 rfl [e.1] 1 (by simp [flat]) rfl).view 0 rfl) b2 fun s67 w54 s => ⟨s.still 5 0 rfl rfl, ⟨s.still 5 1 rfl rfl, ⟨(s.lit (ty := .int .i64) 1 rfl [] 0 rfl rfl).app 1 rfl (Sp.rf2_ s (j + 6) hj).2 b3 fun s68 w55 s => ⟨s.still 5 0 rfl rfl, s.allocK fun a69 w56 s => ⟨s.still 6 0 rfl rfl, s.app 2 rfl ((s.lit (ty := .int .i64) 0 rfl [len] 1 rfl rfl).view 0 rfl) b4 fun s70 w57 s => ⟨s.still 6 0 rfl rfl, s.st0 4 rfl rfl rfl fun w58 s => ⟨s.still 6 0 rfl rfl, s.ld0 (ty := yevergreenref12_Store) (x := (s67, s70)) 4 rfl rfl (h _ _ _ (s.pick [3, 2] 7 rfl (by decide)))⟩⟩⟩⟩,
s.allocK fun a72 w59 s => ⟨s.still 6 0 rfl rfl, ⟨s.still 6 1 rfl rfl, (s.lit (ty := .int .i64) 2 rfl [] 0 rfl rfl).app 2 rfl (Sp.rf2_ s (j + 7) hj).2 b3 fun s73 w60 s => ⟨s.still 6 0 rfl rfl, s.app 2 rfl ((s.lit (ty := .int .i64) 0 rfl [len] 1 rfl rfl).view 0 rfl) b4 fun s74 w61 s => ⟨s.still 6 0 rfl rfl, s.st0 4 rfl rfl rfl fun w62 s => ⟨s.still 6 0 rfl rfl, s.ld0 (ty := yevergreenref12_Store) (x := (s67, s74)) 4 rfl rfl (h _ _ _ (s.pick [3, 2] 7 rfl (by decide)))⟩⟩⟩⟩⟩⟩⟩⟩,
s.allocK fun a76 w63 s => ⟨s.still 6 0 rfl rfl, ⟨s.still 6 1 rfl rfl, s.app 3 rfl ((s.lit (ty := yapi_Rule) 1 rfl [e.1] 1 (by simp [flat]) rfl).view 1 rfl) b2 fun s77 w64 s => ⟨s.still 6 0 rfl rfl, ⟨s.still 6 1 rfl rfl, (s.lit (ty := .int .i64) 2 rfl [] 0 rfl rfl).app 2 rfl (Sp.rf2_ s (j + 7) hj).2 b3 fun s78 w65 s => ⟨s.still 6 0 rfl rfl, s.app 2 rfl ((s.lit (ty := .int .i64) 0 rfl [len] 1 rfl rfl).view 0 rfl) b4 fun s79 w66 s => ⟨s.still 6 0 rfl rfl, s.st0 4 rfl rfl rfl fun w67 s => ⟨s.still 6 0 rfl rfl, s.ld0 (ty := yevergreenref12_Store) (x := (s77, s79)) 4 rfl rfl (h _ _ _ (s.pick [3, 2] 7 rfl (by decide)))⟩⟩⟩⟩⟩⟩⟩⟩⟩⟩,
s.allocK fun a81 w68 s => ⟨s.still 5 0 rfl rfl, ⟨s.still 5 1 rfl rfl, ⟨s.at_ 4 rfl, s.allocK fun a82 w69 s => ⟨s.still 6 0 rfl rfl, ⟨s.still 6 1 rfl rfl, s.app 3 rfl ((s.lit (ty := yapi_Rule) 0 rfl [e.1] 1 (by simp [flat]) rfl).view 0 rfl) b2 fun s83 w70 s => ⟨s.still 6 0 rfl rfl, ⟨s.still 6 1 rfl rfl, (s.lit (ty := .int .i64) 2 rfl [] 0 rfl rfl).app 2 rfl (Sp.rf2_ s (j + 7) hj).2 b3 fun s84 w71 s => ⟨s.still 6 0 rfl rfl, s.app 2 rfl ((s.lit (ty := .int .i64) 1 rfl [len] 1 rfl rfl).view 1 rfl) b4 fun s85 w72 s => ⟨s.still 6 0 rfl rfl, s.st0 4 rfl rfl rfl fun w73 s => ⟨s.still 6 0 rfl rfl, s.ld0 (ty := yevergreenref12_Store) (x := (s83, s85)) 4 rfl rfl (h _ _ _ (s.pick [3, 2] 7 rfl (by decide)))⟩⟩⟩⟩⟩⟩⟩⟩⟩⟩⟩⟩⟩⟩,
s.allocK fun a87 w74 s => ⟨s.still 4 0 rfl rfl, ⟨s.still 4 1 rfl rfl, ⟨s.at_ 3 rfl, ⟨s.allocK fun a88 w75 s => ⟨s.still 5 0 rfl rfl, ⟨s.still 5 1 rfl rfl, ⟨s.app 2 rfl ((s.lit (ty := yapi_Rule) 0 rfl [e.1] 1 (by simp [flat]) rfl).view 0 rfl) b2 fun s89 w76 s => ⟨s.still 5 0 rfl rfl, ⟨s.still 5 1 rfl rfl, s.allocK fun a90 w77 s => ⟨s.still 6 0 rfl rfl, ⟨s.still 6 1 rfl rfl, (s.lit (ty := .int .i64) 0 rfl [] 0 rfl rfl).app 0 rfl (Sp.rf2_ s (j + 7) hj).2 b3 fun s91 w78 s => ⟨s.still 6 0 rfl rfl, s.app 0 rfl ((s.lit (ty := .int .i64) 2 rfl [len] 1 rfl rfl).view 2 rfl) b4 fun s92 w79 s => ⟨s.still 6 0 rfl rfl, s.st0 4 rfl rfl rfl fun w80 s => ⟨s.still 6 0 rfl rfl, s.ld0 (ty := yevergreenref12_Store) (x := (s89, s92)) 4 rfl rfl (h _ _ _ (s.pick [3, 0] 7 rfl (by decide)))⟩⟩⟩⟩⟩⟩⟩,
s.allocK fun a94 w81 s => ⟨s.still 6 0 rfl rfl, ⟨s.still 6 1 rfl rfl, s.app 3 rfl ((s.lit (ty := yapi_Rule) 1 rfl [e.1] 1 (by simp [flat]) rfl).view 1 rfl) b2 fun s95 w82 s => ⟨s.still 6 0 rfl rfl, ⟨s.still 6 1 rfl rfl, (s.lit (ty := .int .i64) 0 rfl [] 0 rfl rfl).app 0 rfl (Sp.rf2_ s (j + 7) hj).2 b3 fun s96 w83 s => ⟨s.still 6 0 rfl rfl, s.app 0 rfl ((s.lit (ty := .int .i64) 2 rfl [len] 1 rfl rfl).view 2 rfl) b4 fun s97 w84 s => ⟨s.still 6 0 rfl rfl, s.st0 4 rfl rfl rfl fun w85 s => ⟨s.still 6 0 rfl rfl, s.ld0 (ty := yevergreenref12_Store) (x := (s95, s97)) 4 rfl rfl (h _ _ _ (s.pick [3, 0] 7 rfl (by decide)))⟩⟩⟩⟩⟩⟩⟩⟩⟩⟩,
s.allocK fun a99 w86 s => ⟨s.still 5 0 rfl rfl, ⟨s.still 5 1 rfl rfl, ⟨s.at_ 4 rfl, s.allocK fun a100 w87 s => ⟨s.still 6 0 rfl rfl, ⟨s.still 6 1 rfl rfl, s.app 3 rfl ((s.lit (ty := yapi_Rule) 0 rfl [e.1] 1 (by simp [flat]) rfl).view 0 rfl) b2 fun s101 w88 s => ⟨s.still 6 0 rfl rfl, ⟨s.still 6 1 rfl rfl, (s.lit (ty := .int .i64) 1 rfl [] 0 rfl rfl).app 1 rfl (Sp.rf2_ s (j + 7) hj).2 b3 fun s102 w89 s => ⟨s.still 6 0 rfl rfl, s.app 1 rfl ((s.lit (ty := .int .i64) 2 rfl [len] 1 rfl rfl).view 2 rfl) b4 fun s103 w90 s => ⟨s.still 6 0 rfl rfl, s.st0 4 rfl rfl rfl fun w91 s => ⟨s.still 6 0 rfl rfl, s.ld0 (ty := yevergreenref12_Store) (x := (s101, s103)) 4 rfl rfl (h _ _ _ (s.pick [3, 1] 7 rfl (by decide)))⟩⟩⟩⟩⟩⟩⟩⟩⟩⟩⟩⟩⟩⟩⟩⟩⟩⟩⟩,
⟨s.allocK fun a105 w92 s => ⟨s.still 4 0 rfl rfl, ⟨s.still 4 1 rfl rfl, ⟨s.still 4 0 rfl rfl, ⟨(s.lit (ty := yapi_Rule) 1 rfl [] 0 rfl rfl).app 1 rfl (Sp.rf2_ s (j + 5) hj).1 b1 fun s106 w93 s => ⟨s.still 4 0 rfl rfl, ⟨s.still 4 1 rfl rfl, ⟨s.app 1 rfl ((s.lit (ty := yapi_Rule) 0 rfl [e.1] 1 (by simp [flat]) rfl).view 0 rfl) b2 fun s107 w94 s => ⟨s.still 4 0 rfl rfl, ⟨s.still 4 1 rfl rfl, ⟨s.allocK fun a108 w95 s => ⟨s.still 5 0 rfl rfl, ⟨s.still 5 1 rfl rfl, ⟨(s.lit (ty := .int .i64) 0 rfl [] 0 rfl rfl).app 0 rfl (Sp.rf2_ s (j + 6) hj).2 b3 fun s109 w96 s => ⟨s.still 5 0 rfl rfl, s.allocK fun a110 w97 s => ⟨s.still 6 0 rfl rfl, s.app 1 rfl ((s.lit (ty := .int .i64) 0 rfl [len] 1 rfl rfl).view 0 rfl) b4 fun s111 w98 s => ⟨s.still 6 0 rfl rfl, s.st0 4 rfl rfl rfl fun w99 s => ⟨s.still 6 0 rfl rfl, s.ld0 (ty := yevergreenref12_Store) (x := (s107, s111)) 4 rfl rfl (h _ _ _ (s.pick [3, 1] 7 rfl (by decide)))⟩⟩⟩⟩,
s.allocK fun a113 w100 s => ⟨s.still 6 0 rfl rfl, ⟨s.still 6 1 rfl rfl, (s.lit (ty := .int .i64) 1 rfl [] 0 rfl rfl).app 1 rfl (Sp.rf2_ s (j + 7) hj).2 b3 fun s114 w101 s => ⟨s.still 6 0 rfl rfl, s.app 1 rfl ((s.lit (ty := .int .i64) 0 rfl [len] 1 rfl rfl).view 0 rfl) b4 fun s115 w102 s => ⟨s.still 6 0 rfl rfl, s.st0 4 rfl rfl rfl fun w103 s => ⟨s.still 6 0 rfl rfl, s.ld0 (ty := yevergreenref12_Store) (x := (s107, s115)) 4 rfl rfl (h _ _ _ (s.pick [3, 1] 7 rfl (by decide)))⟩⟩⟩⟩⟩⟩⟩⟩,
s.allocK fun a117 w104 s => ⟨s.still 5 0 rfl rfl, ⟨s.still 5 1 rfl rfl, s.allocK fun a118 w105 s => ⟨s.still 6 0 rfl rfl, ⟨s.still 6 1 rfl rfl, (s.lit (ty := .int .i64) 0 rfl [] 0 rfl rfl).app 0 rfl (Sp.rf2_ s (j + 7) hj).2 b3 fun s119 w106 s => ⟨s.still 6 0 rfl rfl, s.app 0 rfl ((s.lit (ty := .int .i64) 1 rfl [len] 1 rfl rfl).view 1 rfl) b4 fun s120 w107 s => ⟨s.still 6 0 rfl rfl, s.st0 4 rfl rfl rfl fun w108 s => ⟨s.still 6 0 rfl rfl, s.ld0 (ty := yevergreenref12_Store) (x := (s107, s120)) 4 rfl rfl (h _ _ _ (s.pick [3, 0] 7 rfl (by decide)))⟩⟩⟩⟩⟩⟩⟩⟩⟩⟩,
⟨s.allocK fun a122 w109 s => ⟨s.still 5 0 rfl rfl, ⟨s.still 5 1 rfl rfl, ⟨s.app 2 rfl ((s.lit (ty := yapi_Rule) 1 rfl [e.1] 1 (by simp [flat]) rfl).view 1 rfl) b2 fun s123 w110 s => ⟨s.still 5 0 rfl rfl, ⟨s.still 5 1 rfl rfl, ⟨(s.lit (ty := .int .i64) 0 rfl [] 0 rfl rfl).app 0 rfl (Sp.rf2_ s (j + 6) hj).2 b3 fun s124 w111 s => ⟨s.still 5 0 rfl rfl, s.allocK fun a125 w112 s => ⟨s.still 6 0 rfl rfl, s.app 1 rfl ((s.lit (ty := .int .i64) 0 rfl [len] 1 rfl rfl).view 0 rfl) b4 fun s126 w113 s => ⟨s.still 6 0 rfl rfl, s.st0 4 rfl rfl rfl fun w114 s => ⟨s.still 6 0 rfl rfl, s.ld0 (ty := yevergreenref12_Store) (x := (s123, s126)) 4 rfl rfl (h _ _ _ (s.pick [3, 1] 7 rfl (by decide)))⟩⟩⟩⟩,
s.allocK fun a128 w115 s => ⟨s.still 6 0 rfl rfl, ⟨s.still 6 1 rfl rfl, (s.lit (ty := .int .i64) 1 rfl [] 0 rfl rfl).app 1 rfl (Sp.rf2_ s (j + 7) hj).2 b3 fun s129 w116 s => ⟨s.still 6 0 rfl rfl, s.app 1 rfl ((s.lit (ty := .int .i64) 0 rfl [len] 1 rfl rfl).view 0 rfl) b4 fun s130 w117 s => ⟨s.still 6 0 rfl rfl, s.st0 4 rfl rfl rfl fun w118 s => ⟨s.still 6 0 rfl rfl, s.ld0 (ty := yevergreenref12_Store) (x := (s123, s130)) 4 rfl rfl (h _ _ _ (s.pick [3, 1] 7 rfl (by decide)))⟩⟩⟩⟩⟩⟩⟩⟩,
s.allocK fun a132 w119 s => ⟨s.still 6 0 rfl rfl, ⟨s.still 6 1 rfl rfl, s.app 3 rfl ((s.lit (ty := yapi_Rule) 2 rfl [e.1] 1 (by simp [flat]) rfl).view 2 rfl) b2 fun s133 w120 s => ⟨s.still 6 0 rfl rfl, ⟨s.still 6 1 rfl rfl, (s.lit (ty := .int .i64) 1 rfl [] 0 rfl rfl).app 1 rfl (Sp.rf2_ s (j + 7) hj).2 b3 fun s134 w121 s => ⟨s.still 6 0 rfl rfl, s.app 1 rfl ((s.lit (ty := .int .i64) 0 rfl [len] 1 rfl rfl).view 0 rfl) b4 fun s135 w122 s => ⟨s.still 6 0 rfl rfl, s.st0 4 rfl rfl rfl fun w123 s => ⟨s.still 6 0 rfl rfl, s.ld0 (ty := yevergreenref12_Store) (x := (s133, s135)) 4 rfl rfl (h _ _ _ (s.pick [3, 1] 7 rfl (by decide)))⟩⟩⟩⟩⟩⟩⟩⟩⟩⟩,
s.allocK fun a137 w124 s => ⟨s.still 5 0 rfl rfl, ⟨s.still 5 1 rfl rfl, ⟨s.app 2 rfl ((s.lit (ty := yapi_Rule) 1 rfl [e.1] 1 (by simp [flat]) rfl).view 1 rfl) b2 fun s138 w125 s => ⟨s.still 5 0 rfl rfl, ⟨s.still 5 1 rfl rfl, s.allocK fun a139 w126 s => ⟨s.still 6 0 rfl rfl, ⟨s.still 6 1 rfl rfl, (s.lit (ty := .int .i64) 0 rfl [] 0 rfl rfl).app 0 rfl (Sp.rf2_ s (j + 7) hj).2 b3 fun s140 w127 s => ⟨s.still 6 0 rfl rfl, s.app 0 rfl ((s.lit (ty := .int .i64) 1 rfl [len] 1 rfl rfl).view 1 rfl) b4 fun s141 w128 s => ⟨s.still 6 0 rfl rfl, s.st0 4 rfl rfl rfl fun w129 s => ⟨s.still 6 0 rfl rfl, s.ld0 (ty := yevergreenref12_Store) (x := (s138, s141)) 4 rfl rfl (h _ _ _ (s.pick [3, 0] 7 rfl (by decide)))⟩⟩⟩⟩⟩⟩⟩,
s.allocK fun a143 w130 s => ⟨s.still 6 0 rfl rfl, ⟨s.still 6 1 rfl rfl, s.app 3 rfl ((s.lit (ty := yapi_Rule) 2 rfl [e.1] 1 (by simp [flat]) rfl).view 2 rfl) b2 fun s144 w131 s => ⟨s.still 6 0 rfl rfl, ⟨s.still 6 1 rfl rfl, (s.lit (ty := .int .i64) 0 rfl [] 0 rfl rfl).app 0 rfl (Sp.rf2_ s (j + 7) hj).2 b3 fun s145 w132 s => ⟨s.still 6 0 rfl rfl, s.app 0 rfl ((s.lit (ty := .int .i64) 1 rfl [len] 1 rfl rfl).view 1 rfl) b4 fun s146 w133 s => ⟨s.still 6 0 rfl rfl, s.st0 4 rfl rfl rfl fun w134 s => ⟨s.still 6 0 rfl rfl, s.ld0 (ty := yevergreenref12_Store) (x := (s144, s146)) 4 rfl rfl (h _ _ _ (s.pick [3, 0] 7 rfl (by decide)))⟩⟩⟩⟩⟩⟩⟩⟩⟩⟩⟩⟩⟩⟩,
⟨s.allocK fun a148 w135 s => ⟨s.still 5 0 rfl rfl, ⟨s.still 5 1 rfl rfl, ⟨s.still 5 0 rfl rfl, ⟨(s.lit (ty := yapi_Rule) 2 rfl [] 0 rfl rfl).app 2 rfl (Sp.rf2_ s (j + 6) hj).1 b1 fun s149 w136 s => ⟨s.still 5 0 rfl rfl, ⟨s.still 5 1 rfl rfl, ⟨s.app 2 rfl ((s.lit (ty := yapi_Rule) 1 rfl [e.1] 1 (by simp [flat]) rfl).view 1 rfl) b2 fun s150 w137 s => ⟨s.still 5 0 rfl rfl, ⟨s.still 5 1 rfl rfl, ⟨(s.lit (ty := .int .i64) 0 rfl [] 0 rfl rfl).app 0 rfl (Sp.rf2_ s (j + 6) hj).2 b3 fun s151 w138 s => ⟨s.still 5 0 rfl rfl, s.allocK fun a152 w139 s => ⟨s.still 6 0 rfl rfl, s.app 1 rfl ((s.lit (ty := .int .i64) 0 rfl [len] 1 rfl rfl).view 0 rfl) b4 fun s153 w140 s => ⟨s.still 6 0 rfl rfl, s.st0 4 rfl rfl rfl fun w141 s => ⟨s.still 6 0 rfl rfl, s.ld0 (ty := yevergreenref12_Store) (x := (s150, s153)) 4 rfl rfl (h _ _ _ (s.pick [3, 1] 7 rfl (by decide)))⟩⟩⟩⟩,
s.allocK fun a155 w142 s => ⟨s.still 6 0 rfl rfl, ⟨s.still 6 1 rfl rfl, (s.lit (ty := .int .i64) 1 rfl [] 0 rfl rfl).app 1 rfl (Sp.rf2_ s (j + 7) hj).2 b3 fun s156 w143 s => ⟨s.still 6 0 rfl rfl, s.app 1 rfl ((s.lit (ty := .int .i64) 0 rfl [len] 1 rfl rfl).view 0 rfl) b4 fun s157 w144 s => ⟨s.still 6 0 rfl rfl, s.st0 4 rfl rfl rfl fun w145 s => ⟨s.still 6 0 rfl rfl, s.ld0 (ty := yevergreenref12_Store) (x := (s150, s157)) 4 rfl rfl (h _ _ _ (s.pick [3, 1] 7 rfl (by decide)))⟩⟩⟩⟩⟩⟩⟩⟩,
s.allocK fun a159 w146 s => ⟨s.still 6 0 rfl rfl, ⟨s.still 6 1 rfl rfl, s.app 3 rfl ((s.lit (ty := yapi_Rule) 2 rfl [e.1] 1 (by simp [flat]) rfl).view 2 rfl) b2 fun s160 w147 s => ⟨s.still 6 0 rfl rfl, ⟨s.still 6 1 rfl rfl, (s.lit (ty := .int .i64) 1 rfl [] 0 rfl rfl).app 1 rfl (Sp.rf2_ s (j + 7) hj).2 b3 fun s161 w148 s => ⟨s.still 6 0 rfl rfl, s.app 1 rfl ((s.lit (ty := .int .i64) 0 rfl [len] 1 rfl rfl).view 0 rfl) b4 fun s162 w149 s => ⟨s.still 6 0 rfl rfl, s.st0 4 rfl rfl rfl fun w150 s => ⟨s.still 6 0 rfl rfl, s.ld0 (ty := yevergreenref12_Store) (x := (s160, s162)) 4 rfl rfl (h _ _ _ (s.pick [3, 1] 7 rfl (by decide)))⟩⟩⟩⟩⟩⟩⟩⟩⟩⟩,
s.allocK fun a164 w151 s => ⟨s.still 6 0 rfl rfl, ⟨s.still 6 1 rfl rfl, ⟨s.still 6 0 rfl rfl, (s.lit (ty := yapi_Rule) 3 rfl [] 0 rfl rfl).app 3 rfl (Sp.rf2_ s (j + 7) hj).1 b1 fun s165 w152 s => ⟨s.still 6 0 rfl rfl, ⟨s.still 6 1 rfl rfl, s.app 3 rfl ((s.lit (ty := yapi_Rule) 2 rfl [e.1] 1 (by simp [flat]) rfl).view 2 rfl) b2 fun s166 w153 s => ⟨s.still 6 0 rfl rfl, ⟨s.still 6 1 rfl rfl, (s.lit (ty := .int .i64) 1 rfl [] 0 rfl rfl).app 1 rfl (Sp.rf2_ s (j + 7) hj).2 b3 fun s167 w154 s => ⟨s.still 6 0 rfl rfl, s.app 1 rfl ((s.lit (ty := .int .i64) 0 rfl [len] 1 rfl rfl).view 0 rfl) b4 fun s168 w155 s => ⟨s.still 6 0 rfl rfl, s.st0 4 rfl rfl rfl fun w156 s => ⟨s.still 6 0 rfl rfl, s.ld0 (ty := yevergreenref12_Store) (x := (s166, s168)) 4 rfl rfl (h _ _ _ (s.pick [3, 1] 7 rfl (by decide)))⟩⟩⟩⟩⟩⟩⟩⟩⟩⟩⟩⟩⟩⟩,
s.allocK fun a170 w157 s => ⟨s.still 5 0 rfl rfl, ⟨s.still 5 1 rfl rfl, ⟨s.still 5 0 rfl rfl, ⟨(s.lit (ty := yapi_Rule) 2 rfl [] 0 rfl rfl).app 2 rfl (Sp.rf2_ s (j + 6) hj).1 b1 fun s171 w158 s => ⟨s.still 5 0 rfl rfl, ⟨s.still 5 1 rfl rfl, ⟨s.app 2 rfl ((s.lit (ty := yapi_Rule) 1 rfl [e.1] 1 (by simp [flat]) rfl).view 1 rfl) b2 fun s172 w159 s => ⟨s.still 5 0 rfl rfl, ⟨s.still 5 1 rfl rfl, s.allocK fun a173 w160 s => ⟨s.still 6 0 rfl rfl, ⟨s.still 6 1 rfl rfl, (s.lit (ty := .int .i64) 0 rfl [] 0 rfl rfl).app 0 rfl (Sp.rf2_ s (j + 7) hj).2 b3 fun s174 w161 s => ⟨s.still 6 0 rfl rfl, s.app 0 rfl ((s.lit (ty := .int .i64) 1 rfl [len] 1 rfl rfl).view 1 rfl) b4 fun s175 w162 s => ⟨s.still 6 0 rfl rfl, s.st0 4 rfl rfl rfl fun w163 s => ⟨s.still 6 0 rfl rfl, s.ld0 (ty := yevergreenref12_Store) (x := (s172, s175)) 4 rfl rfl (h _ _ _ (s.pick [3, 0] 7 rfl (by decide)))⟩⟩⟩⟩⟩⟩⟩,
s.allocK fun a177 w164 s => ⟨s.still 6 0 rfl rfl, ⟨s.still 6 1 rfl rfl, s.app 3 rfl ((s.lit (ty := yapi_Rule) 2 rfl [e.1] 1 (by simp [flat]) rfl).view 2 rfl) b2 fun s178 w165 s => ⟨s.still 6 0 rfl rfl, ⟨s.still 6 1 rfl rfl, (s.lit (ty := .int .i64) 0 rfl [] 0 rfl rfl).app 0 rfl (Sp.rf2_ s (j + 7) hj).2 b3 fun s179 w166 s => ⟨s.still 6 0 rfl rfl, s.app 0 rfl ((s.lit (ty := .int .i64) 1 rfl [len] 1 rfl rfl).view 1 rfl) b4 fun s180 w167 s => ⟨s.still 6 0 rfl rfl, s.st0 4 rfl rfl rfl fun w168 s => ⟨s.still 6 0 rfl rfl, s.ld0 (ty := yevergreenref12_Store) (x := (s178, s180)) 4 rfl rfl (h _ _ _ (s.pick [3, 0] 7 rfl (by decide)))⟩⟩⟩⟩⟩⟩⟩⟩⟩⟩,
s.allocK fun a182 w169 s => ⟨s.still 6 0 rfl rfl, ⟨s.still 6 1 rfl rfl, ⟨s.still 6 0 rfl rfl, (s.lit (ty := yapi_Rule) 3 rfl [] 0 rfl rfl).app 3 rfl (Sp.rf2_ s (j + 7) hj).1 b1 fun s183 w170 s => ⟨s.still 6 0 rfl rfl, ⟨s.still 6 1 rfl rfl, s.app 3 rfl ((s.lit (ty := yapi_Rule) 2 rfl [e.1] 1 (by simp [flat]) rfl).view 2 rfl) b2 fun s184 w171 s => ⟨s.still 6 0 rfl rfl, ⟨s.still 6 1 rfl rfl, (s.lit (ty := .int .i64) 0 rfl [] 0 rfl rfl).app 0 rfl (Sp.rf2_ s (j + 7) hj).2 b3 fun s185 w172 s => ⟨s.still 6 0 rfl rfl, s.app 0 rfl ((s.lit (ty := .int .i64) 1 rfl [len] 1 rfl rfl).view 1 rfl) b4 fun s186 w173 s => ⟨s.still 6 0 rfl rfl, s.st0 4 rfl rfl rfl fun w174 s => ⟨s.still 6 0 rfl rfl, s.ld0 (ty := yevergreenref12_Store) (x := (s184, s186)) 4 rfl rfl (h _ _ _ (s.pick [3, 0] 7 rfl (by decide)))⟩⟩⟩⟩⟩⟩⟩⟩⟩⟩⟩⟩⟩⟩⟩⟩⟩⟩⟩,
⟨s.allocK fun a188 w175 s => ⟨s.still 4 0 rfl rfl, ⟨s.still 4 1 rfl rfl, ⟨s.at_ 3 rfl, ⟨s.still 4 0 rfl rfl, ⟨(s.lit (ty := yapi_Rule) 1 rfl [] 0 rfl rfl).app 1 rfl (Sp.rf2_ s (j + 5) hj).1 b1 fun s189 w176 s => ⟨s.still 4 0 rfl rfl, ⟨s.still 4 1 rfl rfl, ⟨s.at_ 3 rfl, ⟨s.allocK fun a190 w177 s => ⟨s.still 5 0 rfl rfl, ⟨s.still 5 1 rfl rfl, ⟨s.app 2 rfl ((s.lit (ty := yapi_Rule) 0 rfl [e.1] 1 (by simp [flat]) rfl).view 0 rfl) b2 fun s191 w178 s => ⟨s.still 5 0 rfl rfl, ⟨s.still 5 1 rfl rfl, ⟨(s.lit (ty := .int .i64) 1 rfl [] 0 rfl rfl).app 1 rfl (Sp.rf2_ s (j + 6) hj).2 b3 fun s192 w179 s => ⟨s.still 5 0 rfl rfl, s.allocK fun a193 w180 s => ⟨s.still 6 0 rfl rfl, s.app 2 rfl ((s.lit (ty := .int .i64) 0 rfl [len] 1 rfl rfl).view 0 rfl) b4 fun s194 w181 s => ⟨s.still 6 0 rfl rfl, s.st0 4 rfl rfl rfl fun w182 s => ⟨s.still 6 0 rfl rfl, s.ld0 (ty := yevergreenref12_Store) (x := (s191, s194)) 4 rfl rfl (h _ _ _ (s.pick [3, 2] 7 rfl (by decide)))⟩⟩⟩⟩,
s.allocK fun a196 w183 s => ⟨s.still 6 0 rfl rfl, ⟨s.still 6 1 rfl rfl, (s.lit (ty := .int .i64) 2 rfl [] 0 rfl rfl).app 2 rfl (Sp.rf2_ s (j + 7) hj).2 b3 fun s197 w184 s => ⟨s.still 6 0 rfl rfl, s.app 2 rfl ((s.lit (ty := .int .i64) 0 rfl [len] 1 rfl rfl).view 0 rfl) b4 fun s198 w185 s => ⟨s.still 6 0 rfl rfl, s.st0 4 rfl rfl rfl fun w186 s => ⟨s.still 6 0 rfl rfl, s.ld0 (ty := yevergreenref12_Store) (x := (s191, s198)) 4 rfl rfl (h _ _ _ (s.pick [3, 2] 7 rfl (by decide)))⟩⟩⟩⟩⟩⟩⟩⟩,
s.allocK fun a200 w187 s => ⟨s.still 6 0 rfl rfl, ⟨s.still 6 1 rfl rfl, s.app 3 rfl ((s.lit (ty := yapi_Rule) 1 rfl [e.1] 1 (by simp [flat]) rfl).view 1 rfl) b2 fun s201 w188 s => ⟨s.still 6 0 rfl rfl, ⟨s.still 6 1 rfl rfl, (s.lit (ty := .int .i64) 2 rfl [] 0 rfl rfl).app 2 rfl (Sp.rf2_ s (j + 7) hj).2 b3 fun s202 w189 s => ⟨s.still 6 0 rfl rfl, s.app 2 rfl ((s.lit (ty := .int .i64) 0 rfl [len] 1 rfl rfl).view 0 rfl) b4 fun s203 w190 s => ⟨s.still 6 0 rfl rfl, s.st0 4 rfl rfl rfl fun w191 s => ⟨s.still 6 0 rfl rfl, s.ld0 (ty := yevergreenref12_Store) (x := (s201, s203)) 4 rfl rfl (h _ _ _ (s.pick [3, 2] 7 rfl (by decide)))⟩⟩⟩⟩⟩⟩⟩⟩⟩⟩,
s.allocK fun a205 w192 s => ⟨s.still 5 0 rfl rfl, ⟨s.still 5 1 rfl rfl, ⟨s.at_ 4 rfl, s.allocK fun a206 w193 s => ⟨s.still 6 0 rfl rfl, ⟨s.still 6 1 rfl rfl, s.app 3 rfl ((s.lit (ty := yapi_Rule) 0 rfl [e.1] 1 (by simp [flat]) rfl).view 0 rfl) b2 fun s207 w194 s => ⟨s.still 6 0 rfl rfl, ⟨s.still 6 1 rfl rfl, (s.lit (ty := .int .i64) 2 rfl [] 0 rfl rfl).app 2 rfl (Sp.rf2_ s (j + 7) hj).2 b3 fun s208 w195 s => ⟨s.still 6 0 rfl rfl, s.app 2 rfl ((s.lit (ty := .int .i64) 1 rfl [len] 1 rfl rfl).view 1 rfl) b4 fun s209 w196 s => ⟨s.still 6 0 rfl rfl, s.st0 4 rfl rfl rfl fun w197 s => ⟨s.still 6 0 rfl rfl, s.ld0 (ty := yevergreenref12_Store) (x := (s207, s209)) 4 rfl rfl (h _ _ _ (s.pick [3, 2] 7 rfl (by decide)))⟩⟩⟩⟩⟩⟩⟩⟩⟩⟩⟩⟩⟩⟩,
⟨s.allocK fun a211 w198 s => ⟨s.still 5 0 rfl rfl, ⟨s.still 5 1 rfl rfl, ⟨s.still 5 0 rfl rfl, ⟨(s.lit (ty := yapi_Rule) 2 rfl [] 0 rfl rfl).app 2 rfl (Sp.rf2_ s (j + 6) hj).1 b1 fun s212 w199 s => ⟨s.still 5 0 rfl rfl, ⟨s.still 5 1 rfl rfl, ⟨s.app 2 rfl ((s.lit (ty := yapi_Rule) 0 rfl [e.1] 1 (by simp [flat]) rfl).view 0 rfl) b2 fun s213 w200 s => ⟨s.still 5 0 rfl rfl, ⟨s.still 5 1 rfl rfl, ⟨(s.lit (ty := .int .i64) 1 rfl [] 0 rfl rfl).app 1 rfl (Sp.rf2_ s (j + 6) hj).2 b3 fun s214 w201 s => ⟨s.still 5 0 rfl rfl, s.allocK fun a215 w202 s => ⟨s.still 6 0 rfl rfl, s.app 2 rfl ((s.lit (ty := .int .i64) 0 rfl [len] 1 rfl rfl).view 0 rfl) b4 fun s216 w203 s => ⟨s.still 6 0 rfl rfl, s.st0 4 rfl rfl rfl fun w204 s => ⟨s.still 6 0 rfl rfl, s.ld0 (ty := yevergreenref12_Store) (x := (s213, s216)) 4 rfl rfl (h _ _ _ (s.pick [3, 2] 7 rfl (by decide)))⟩⟩⟩⟩,
s.allocK fun a218 w205 s => ⟨s.still 6 0 rfl rfl, ⟨s.still 6 1 rfl rfl, (s.lit (ty := .int .i64) 2 rfl [] 0 rfl rfl).app 2 rfl (Sp.rf2_ s (j + 7) hj).2 b3 fun s219 w206 s => ⟨s.still 6 0 rfl rfl, s.app 2 rfl ((s.lit (ty := .int .i64) 0 rfl [len] 1 rfl rfl).view 0 rfl) b4 fun s220 w207 s => ⟨s.still 6 0 rfl rfl, s.st0 4 rfl rfl rfl fun w208 s => ⟨s.still 6 0 rfl rfl, s.ld0 (ty := yevergreenref12_Store) (x := (s213, s220)) 4 rfl rfl (h _ _ _ (s.pick [3, 2] 7 rfl (by decide)))⟩⟩⟩⟩⟩⟩⟩⟩,
s.allocK fun a222 w209 s => ⟨s.still 6 0 rfl rfl, ⟨s.still 6 1 rfl rfl, s.app 3 rfl ((s.lit (ty := yapi_Rule) 1 rfl [e.1] 1 (by simp [flat]) rfl).view 1 rfl) b2 fun s223 w210 s => ⟨s.still 6 0 rfl rfl, ⟨s.still 6 1 rfl rfl, (s.lit (ty := .int .i64) 2 rfl [] 0 rfl rfl).app 2 rfl (Sp.rf2_ s (j + 7) hj).2 b3 fun s224 w211 s => ⟨s.still 6 0 rfl rfl, s.app 2 rfl ((s.lit (ty := .int .i64) 0 rfl [len] 1 rfl rfl).view 0 rfl) b4 fun s225 w212 s => ⟨s.still 6 0 rfl rfl, s.st0 4 rfl rfl rfl fun w213 s => ⟨s.still 6 0 rfl rfl, s.ld0 (ty := yevergreenref12_Store) (x := (s223, s225)) 4 rfl rfl (h _ _ _ (s.pick [3, 2] 7 rfl (by decide)))⟩⟩⟩⟩⟩⟩⟩⟩⟩⟩,
s.allocK fun a227 w214 s => ⟨s.still 6 0 rfl rfl, ⟨s.still 6 1 rfl rfl, ⟨s.still 6 0 rfl rfl, (s.lit (ty := yapi_Rule) 3 rfl [] 0 rfl rfl).app 3 rfl (Sp.rf2_ s (j + 7) hj).1 b1 fun s228 w215 s => ⟨s.still 6 0 rfl rfl, ⟨s.still 6 1 rfl rfl, s.app 3 rfl ((s.lit (ty := yapi_Rule) 1 rfl [e.1] 1 (by simp [flat]) rfl).view 1 rfl) b2 fun s229 w216 s => ⟨s.still 6 0 rfl rfl, ⟨s.still 6 1 rfl rfl, (s.lit (ty := .int .i64) 2 rfl [] 0 rfl rfl).app 2 rfl (Sp.rf2_ s (j + 7) hj).2 b3 fun s230 w217 s => ⟨s.still 6 0 rfl rfl, s.app 2 rfl ((s.lit (ty := .int .i64) 0 rfl [len] 1 rfl rfl).view 0 rfl) b4 fun s231 w218 s => ⟨s.still 6 0 rfl rfl, s.st0 4 rfl rfl rfl fun w219 s => ⟨s.still 6 0 rfl rfl, s.ld0 (ty := yevergreenref12_Store) (x := (s229, s231)) 4 rfl rfl (h _ _ _ (s.pick [3, 2] 7 rfl (by decide)))⟩⟩⟩⟩⟩⟩⟩⟩⟩⟩⟩⟩⟩⟩,
s.allocK fun a233 w220 s => ⟨s.still 5 0 rfl rfl, ⟨s.still 5 1 rfl rfl, ⟨s.at_ 4 rfl, ⟨s.still 5 0 rfl rfl, ⟨(s.lit (ty := yapi_Rule) 2 rfl [] 0 rfl rfl).app 2 rfl (Sp.rf2_ s (j + 6) hj).1 b1 fun s234 w221 s => ⟨s.still 5 0 rfl rfl, ⟨s.still 5 1 rfl rfl, ⟨s.at_ 4 rfl, s.allocK fun a235 w222 s => ⟨s.still 6 0 rfl rfl, ⟨s.still 6 1 rfl rfl, s.app 3 rfl ((s.lit (ty := yapi_Rule) 0 rfl [e.1] 1 (by simp [flat]) rfl).view 0 rfl) b2 fun s236 w223 s => ⟨s.still 6 0 rfl rfl, ⟨s.still 6 1 rfl rfl, (s.lit (ty := .int .i64) 2 rfl [] 0 rfl rfl).app 2 rfl (Sp.rf2_ s (j + 7) hj).2 b3 fun s237 w224 s => ⟨s.still 6 0 rfl rfl, s.app 2 rfl ((s.lit (ty := .int .i64) 1 rfl [len] 1 rfl rfl).view 1 rfl) b4 fun s238 w225 s => ⟨s.still 6 0 rfl rfl, s.st0 4 rfl rfl rfl fun w226 s => ⟨s.still 6 0 rfl rfl, s.ld0 (ty := yevergreenref12_Store) (x := (s236, s238)) 4 rfl rfl (h _ _ _ (s.pick [3, 2] 7 rfl (by decide)))⟩⟩⟩⟩⟩⟩⟩⟩⟩⟩,
s.allocK fun a240 w227 s => ⟨s.still 6 0 rfl rfl, ⟨s.still 6 1 rfl rfl, ⟨s.still 6 0 rfl rfl, (s.lit (ty := yapi_Rule) 3 rfl [] 0 rfl rfl).app 3 rfl (Sp.rf2_ s (j + 7) hj).1 b1 fun s241 w228 s => ⟨s.still 6 0 rfl rfl, ⟨s.still 6 1 rfl rfl, s.app 3 rfl ((s.lit (ty := yapi_Rule) 0 rfl [e.1] 1 (by simp [flat]) rfl).view 0 rfl) b2 fun s242 w229 s => ⟨s.still 6 0 rfl rfl, ⟨s.still 6 1 rfl rfl, (s.lit (ty := .int .i64) 2 rfl [] 0 rfl rfl).app 2 rfl (Sp.rf2_ s (j + 7) hj).2 b3 fun s243 w230 s => ⟨s.still 6 0 rfl rfl, s.app 2 rfl ((s.lit (ty := .int .i64) 1 rfl [len] 1 rfl rfl).view 1 rfl) b4 fun s244 w231 s => ⟨s.still 6 0 rfl rfl, s.st0 4 rfl rfl rfl fun w232 s => ⟨s.still 6 0 rfl rfl, s.ld0 (ty := yevergreenref12_Store) (x := (s242, s244)) 4 rfl rfl (h _ _ _ (s.pick [3, 2] 7 rfl (by decide)))⟩⟩⟩⟩⟩⟩⟩⟩⟩⟩⟩⟩⟩⟩⟩⟩⟩⟩⟩⟩⟩,
s.allocK fun a246 w233 s => ⟨s.still 4 0 rfl rfl, ⟨s.still 4 1 rfl rfl, ⟨s.at_ 3 rfl, ⟨s.still 4 0 rfl rfl, ⟨(s.lit (ty := yapi_Rule) 1 rfl [] 0 rfl rfl).app 1 rfl (Sp.rf2_ s (j + 5) hj).1 b1 fun s247 w234 s => ⟨s.still 4 0 rfl rfl, ⟨s.still 4 1 rfl rfl, ⟨s.at_ 3 rfl, ⟨s.allocK fun a248 w235 s => ⟨s.still 5 0 rfl rfl, ⟨s.still 5 1 rfl rfl, ⟨s.app 2 rfl ((s.lit (ty := yapi_Rule) 0 rfl [e.1] 1 (by simp [flat]) rfl).view 0 rfl) b2 fun s249 w236 s => ⟨s.still 5 0 rfl rfl, ⟨s.still 5 1 rfl rfl, s.allocK fun a250 w237 s => ⟨s.still 6 0 rfl rfl, ⟨s.still 6 1 rfl rfl, (s.lit (ty := .int .i64) 0 rfl [] 0 rfl rfl).app 0 rfl (Sp.rf2_ s (j + 7) hj).2 b3 fun s251 w238 s => ⟨s.still 6 0 rfl rfl, s.app 0 rfl ((s.lit (ty := .int .i64) 2 rfl [len] 1 rfl rfl).view 2 rfl) b4 fun s252 w239 s => ⟨s.still 6 0 rfl rfl, s.st0 4 rfl rfl rfl fun w240 s => ⟨s.still 6 0 rfl rfl, s.ld0 (ty := yevergreenref12_Store) (x := (s249, s252)) 4 rfl rfl (h _ _ _ (s.pick [3, 0] 7 rfl (by decide)))⟩⟩⟩⟩⟩⟩⟩,
s.allocK fun a254 w241 s => ⟨s.still 6 0 rfl rfl, ⟨s.still 6 1 rfl rfl, s.app 3 rfl ((s.lit (ty := yapi_Rule) 1 rfl [e.1] 1 (by simp [flat]) rfl).view 1 rfl) b2 fun s255 w242 s => ⟨s.still 6 0 rfl rfl, ⟨s.still 6 1 rfl rfl, (s.lit (ty := .int .i64) 0 rfl [] 0 rfl rfl).app 0 rfl (Sp.rf2_ s (j + 7) hj).2 b3 fun s256 w243 s => ⟨s.still 6 0 rfl rfl, s.app 0 rfl ((s.lit (ty := .int .i64) 2 rfl [len] 1 rfl rfl).view 2 rfl) b4 fun s257 w244 s => ⟨s.still 6 0 rfl rfl, s.st0 4 rfl rfl rfl fun w245 s => ⟨s.still 6 0 rfl rfl, s.ld0 (ty := yevergreenref12_Store) (x := (s255, s257)) 4 rfl rfl (h _ _ _ (s.pick [3, 0] 7 rfl (by decide)))⟩⟩⟩⟩⟩⟩⟩⟩⟩⟩,
s.allocK fun a259 w246 s => ⟨s.still 5 0 rfl rfl, ⟨s.still 5 1 rfl rfl, ⟨s.at_ 4 rfl, s.allocK fun a260 w247 s => ⟨s.still 6 0 rfl rfl, ⟨s.still 6 1 rfl rfl, s.app 3 rfl ((s.lit (ty := yapi_Rule) 0 rfl [e.1] 1 (by simp [flat]) rfl).view 0 rfl) b2 fun s261 w248 s => ⟨s.still 6 0 rfl rfl, ⟨s.still 6 1 rfl rfl, (s.lit (ty := .int .i64) 1 rfl [] 0 rfl rfl).app 1 rfl (Sp.rf2_ s (j + 7) hj).2 b3 fun s262 w249 s => ⟨s.still 6 0 rfl rfl, s.app 1 rfl ((s.lit (ty := .int .i64) 2 rfl [len] 1 rfl rfl).view 2 rfl) b4 fun s263 w250 s => ⟨s.still 6 0 rfl rfl, s.st0 4 rfl rfl rfl fun w251 s => ⟨s.still 6 0 rfl rfl, s.ld0 (ty := yevergreenref12_Store) (x := (s261, s263)) 4 rfl rfl (h _ _ _ (s.pick [3, 1] 7 rfl (by decide)))⟩⟩⟩⟩⟩⟩⟩⟩⟩⟩⟩⟩⟩⟩,
⟨s.allocK fun a265 w252 s => ⟨s.still 5 0 rfl rfl, ⟨s.still 5 1 rfl rfl, ⟨s.still 5 0 rfl rfl, ⟨(s.lit (ty := yapi_Rule) 2 rfl [] 0 rfl rfl).app 2 rfl (Sp.rf2_ s (j + 6) hj).1 b1 fun s266 w253 s => ⟨s.still 5 0 rfl rfl, ⟨s.still 5 1 rfl rfl, ⟨s.app 2 rfl ((s.lit (ty := yapi_Rule) 0 rfl [e.1] 1 (by simp [flat]) rfl).view 0 rfl) b2 fun s267 w254 s => ⟨s.still 5 0 rfl rfl, ⟨s.still 5 1 rfl rfl, s.allocK fun a268 w255 s => ⟨s.still 6 0 rfl rfl, ⟨s.still 6 1 rfl rfl, (s.lit (ty := .int .i64) 0 rfl [] 0 rfl rfl).app 0 rfl (Sp.rf2_ s (j + 7) hj).2 b3 fun s269 w256 s => ⟨s.still 6 0 rfl rfl, s.app 0 rfl ((s.lit (ty := .int .i64) 2 rfl [len] 1 rfl rfl).view 2 rfl) b4 fun s270 w257 s => ⟨s.still 6 0 rfl rfl, s.st0 4 rfl rfl rfl fun w258 s => ⟨s.still 6 0 rfl rfl, s.ld0 (ty := yevergreenref12_Store) (x := (s267, s270)) 4 rfl rfl (h _ _ _ (s.pick [3, 0] 7 rfl (by decide)))⟩⟩⟩⟩⟩⟩⟩,
s.allocK fun a272 w259 s => ⟨s.still 6 0 rfl rfl, ⟨s.still 6 1 rfl rfl, s.app 3 rfl ((s.lit (ty := yapi_Rule) 1 rfl [e.1] 1 (by simp [flat]) rfl).view 1 rfl) b2 fun s273 w260 s => ⟨s.still 6 0 rfl rfl, ⟨s.still 6 1 rfl rfl, (s.lit (ty := .int .i64) 0 rfl [] 0 rfl rfl).app 0 rfl (Sp.rf2_ s (j + 7) hj).2 b3 fun s274 w261 s => ⟨s.still 6 0 rfl rfl, s.app 0 rfl ((s.lit (ty := .int .i64) 2 rfl [len] 1 rfl rfl).view 2 rfl) b4 fun s275 w262 s => ⟨s.still 6 0 rfl rfl, s.st0 4 rfl rfl rfl fun w263 s => ⟨s.still 6 0 rfl rfl, s.ld0 (ty := yevergreenref12_Store) (x := (s273, s275)) 4 rfl rfl (h _ _ _ (s.pick [3, 0] 7 rfl (by decide)))⟩⟩⟩⟩⟩⟩⟩⟩⟩⟩,
s.allocK fun a277 w264 s => ⟨s.still 6 0 rfl rfl, ⟨s.still 6 1 rfl rfl, ⟨s.still 6 0 rfl rfl, (s.lit (ty := yapi_Rule) 3 rfl [] 0 rfl rfl).app 3 rfl (Sp.rf2_ s (j + 7) hj).1 b1 fun s278 w265 s => ⟨s.still 6 0 rfl rfl, ⟨s.still 6 1 rfl rfl, s.app 3 rfl ((s.lit (ty := yapi_Rule) 1 rfl [e.1] 1 (by simp [flat]) rfl).view 1 rfl) b2 fun s279 w266 s => ⟨s.still 6 0 rfl rfl, ⟨s.still 6 1 rfl rfl, (s.lit (ty := .int .i64) 0 rfl [] 0 rfl rfl).app 0 rfl (Sp.rf2_ s (j + 7) hj).2 b3 fun s280 w267 s => ⟨s.still 6 0 rfl rfl, s.app 0 rfl ((s.lit (ty := .int .i64) 2 rfl [len] 1 rfl rfl).view 2 rfl) b4 fun s281 w268 s => ⟨s.still 6 0 rfl rfl, s.st0 4 rfl rfl rfl fun w269 s => ⟨s.still 6 0 rfl rfl, s.ld0 (ty := yevergreenref12_Store) (x := (s279, s281)) 4 rfl rfl (h _ _ _ (s.pick [3, 0] 7 rfl (by decide)))⟩⟩⟩⟩⟩⟩⟩⟩⟩⟩⟩⟩⟩⟩,
s.allocK fun a283 w270 s => ⟨s.still 5 0 rfl rfl, ⟨s.still 5 1 rfl rfl, ⟨s.at_ 4 rfl, ⟨s.still 5 0 rfl rfl, ⟨(s.lit (ty := yapi_Rule) 2 rfl [] 0 rfl rfl).app 2 rfl (Sp.rf2_ s (j + 6) hj).1 b1 fun s284 w271 s => ⟨s.still 5 0 rfl rfl, ⟨s.still 5 1 rfl rfl, ⟨s.at_ 4 rfl, s.allocK fun a285 w272 s => ⟨s.still 6 0 rfl rfl, ⟨s.still 6 1 rfl rfl, s.app 3 rfl ((s.lit (ty := yapi_Rule) 0 rfl [e.1] 1 (by simp [flat]) rfl).view 0 rfl) b2 fun s286 w273 s => ⟨s.still 6 0 rfl rfl, ⟨s.still 6 1 rfl rfl, (s.lit (ty := .int .i64) 1 rfl [] 0 rfl rfl).app 1 rfl (Sp.rf2_ s (j + 7) hj).2 b3 fun s287 w274 s => ⟨s.still 6 0 rfl rfl, s.app 1 rfl ((s.lit (ty := .int .i64) 2 rfl [len] 1 rfl rfl).view 2 rfl) b4 fun s288 w275 s => ⟨s.still 6 0 rfl rfl, s.st0 4 rfl rfl rfl fun w276 s => ⟨s.still 6 0 rfl rfl, s.ld0 (ty := yevergreenref12_Store) (x := (s286, s288)) 4 rfl rfl (h _ _ _ (s.pick [3, 1] 7 rfl (by decide)))⟩⟩⟩⟩⟩⟩⟩⟩⟩⟩,
s.allocK fun a290 w277 s => ⟨s.still 6 0 rfl rfl, ⟨s.still 6 1 rfl rfl, ⟨s.still 6 0 rfl rfl, (s.lit (ty := yapi_Rule) 3 rfl [] 0 rfl rfl).app 3 rfl (Sp.rf2_ s (j + 7) hj).1 b1 fun s291 w278 s => ⟨s.still 6 0 rfl rfl, ⟨s.still 6 1 rfl rfl, s.app 3 rfl ((s.lit (ty := yapi_Rule) 0 rfl [e.1] 1 (by simp [flat]) rfl).view 0 rfl) b2 fun s292 w279 s => ⟨s.still 6 0 rfl rfl, ⟨s.still 6 1 rfl rfl, (s.lit (ty := .int .i64) 1 rfl [] 0 rfl rfl).app 1 rfl (Sp.rf2_ s (j + 7) hj).2 b3 fun s293 w280 s => ⟨s.still 6 0 rfl rfl, s.app 1 rfl ((s.lit (ty := .int .i64) 2 rfl [len] 1 rfl rfl).view 2 rfl) b4 fun s294 w281 s => ⟨s.still 6 0 rfl rfl, s.st0 4 rfl rfl rfl fun w282 s => ⟨s.still 6 0 rfl rfl, s.ld0 (ty := yevergreenref12_Store) (x := (s292, s294)) 4 rfl rfl (h _ _ _ (s.pick [3, 1] 7 rfl (by decide)))⟩⟩⟩⟩⟩⟩⟩⟩⟩⟩⟩⟩⟩⟩⟩⟩⟩⟩⟩⟩⟩⟩⟩⟩⟩⟩⟩⟩,
⟨s.allocK fun a296 w283 s => ⟨s.still 3 0 rfl rfl, ⟨s.still 3 1 rfl rfl, ⟨s.still 3 0 rfl rfl, ⟨s.allocK fun a297 w284 s => ⟨s.still 4 0 rfl rfl, ⟨s.still 4 1 rfl rfl, ⟨s.still 4 0 rfl rfl, ⟨(s.lit (ty := yapi_Rule) 0 rfl [] 0 rfl rfl).app 0 rfl (Sp.rf2_ s (j + 5) hj).1 b1 fun s298 w285 s => ⟨s.still 4 0 rfl rfl, ⟨s.still 4 1 rfl rfl, ⟨s.app 0 rfl ((s.lit (ty := yapi_Rule) 1 rfl [e.1] 1 (by simp [flat]) rfl).view 1 rfl) b2 fun s299 w286 s => ⟨s.still 4 0 rfl rfl, ⟨s.still 4 1 rfl rfl, ⟨s.allocK fun a300 w287 s => ⟨s.still 5 0 rfl rfl, ⟨s.still 5 1 rfl rfl, ⟨(s.lit (ty := .int .i64) 0 rfl [] 0 rfl rfl).app 0 rfl (Sp.rf2_ s (j + 6) hj).2 b3 fun s301 w288 s => ⟨s.still 5 0 rfl rfl, s.allocK fun a302 w289 s => ⟨s.still 6 0 rfl rfl, s.app 1 rfl ((s.lit (ty := .int .i64) 0 rfl [len] 1 rfl rfl).view 0 rfl) b4 fun s303 w290 s => ⟨s.still 6 0 rfl rfl, s.st0 4 rfl rfl rfl fun w291 s => ⟨s.still 6 0 rfl rfl, s.ld0 (ty := yevergreenref12_Store) (x := (s299, s303)) 4 rfl rfl (h _ _ _ (s.pick [2, 1] 7 rfl (by decide)))⟩⟩⟩⟩,
s.allocK fun a305 w292 s => ⟨s.still 6 0 rfl rfl, ⟨s.still 6 1 rfl rfl, (s.lit (ty := .int .i64) 1 rfl [] 0 rfl rfl).app 1 rfl (Sp.rf2_ s (j + 7) hj).2 b3 fun s306 w293 s => ⟨s.still 6 0 rfl rfl, s.app 1 rfl ((s.lit (ty := .int .i64) 0 rfl [len] 1 rfl rfl).view 0 rfl) b4 fun s307 w294 s => ⟨s.still 6 0 rfl rfl, s.st0 4 rfl rfl rfl fun w295 s => ⟨s.still 6 0 rfl rfl, s.ld0 (ty := yevergreenref12_Store) (x := (s299, s307)) 4 rfl rfl (h _ _ _ (s.pick [2, 1] 7 rfl (by decide)))⟩⟩⟩⟩⟩⟩⟩⟩,
s.allocK fun a309 w296 s => ⟨s.still 5 0 rfl rfl, ⟨s.still 5 1 rfl rfl, s.allocK fun a310 w297 s => ⟨s.still 6 0 rfl rfl, ⟨s.still 6 1 rfl rfl, (s.lit (ty := .int .i64) 0 rfl [] 0 rfl rfl).app 0 rfl (Sp.rf2_ s (j + 7) hj).2 b3 fun s311 w298 s => ⟨s.still 6 0 rfl rfl, s.app 0 rfl ((s.lit (ty := .int .i64) 1 rfl [len] 1 rfl rfl).view 1 rfl) b4 fun s312 w299 s => ⟨s.still 6 0 rfl rfl, s.st0 4 rfl rfl rfl fun w300 s => ⟨s.still 6 0 rfl rfl, s.ld0 (ty := yevergreenref12_Store) (x := (s299, s312)) 4 rfl rfl (h _ _ _ (s.pick [2, 0] 7 rfl (by decide)))⟩⟩⟩⟩⟩⟩⟩⟩⟩⟩,
⟨s.allocK fun a314 w301 s => ⟨s.still 5 0 rfl rfl, ⟨s.still 5 1 rfl rfl, ⟨s.app 1 rfl ((s.lit (ty := yapi_Rule) 2 rfl [e.1] 1 (by simp [flat]) rfl).view 2 rfl) b2 fun s315 w302 s => ⟨s.still 5 0 rfl rfl, ⟨s.still 5 1 rfl rfl, ⟨(s.lit (ty := .int .i64) 0 rfl [] 0 rfl rfl).app 0 rfl (Sp.rf2_ s (j + 6) hj).2 b3 fun s316 w303 s => ⟨s.still 5 0 rfl rfl, s.allocK fun a317 w304 s => ⟨s.still 6 0 rfl rfl, s.app 1 rfl ((s.lit (ty := .int .i64) 0 rfl [len] 1 rfl rfl).view 0 rfl) b4 fun s318 w305 s => ⟨s.still 6 0 rfl rfl, s.st0 4 rfl rfl rfl fun w306 s => ⟨s.still 6 0 rfl rfl, s.ld0 (ty := yevergreenref12_Store) (x := (s315, s318)) 4 rfl rfl (h _ _ _ (s.pick [2, 1] 7 rfl (by decide)))⟩⟩⟩⟩,
s.allocK fun a320 w307 s => ⟨s.still 6 0 rfl rfl, ⟨s.still 6 1 rfl rfl, (s.lit (ty := .int .i64) 1 rfl [] 0 rfl rfl).app 1 rfl (Sp.rf2_ s (j + 7) hj).2 b3 fun s321 w308 s => ⟨s.still 6 0 rfl rfl, s.app 1 rfl ((s.lit (ty := .int .i64) 0 rfl [len] 1 rfl rfl).view 0 rfl) b4 fun s322 w309 s => ⟨s.still 6 0 rfl rfl, s.st0 4 rfl rfl rfl fun w310 s => ⟨s.still 6 0 rfl rfl, s.ld0 (ty := yevergreenref12_Store) (x := (s315, s322)) 4 rfl rfl (h _ _ _ (s.pick [2, 1] 7 rfl (by decide)))⟩⟩⟩⟩⟩⟩⟩⟩,
s.allocK fun a324 w311 s => ⟨s.still 6 0 rfl rfl, ⟨s.still 6 1 rfl rfl, s.app 2 rfl ((s.lit (ty := yapi_Rule) 3 rfl [e.1] 1 (by simp [flat]) rfl).view 3 rfl) b2 fun s325 w312 s => ⟨s.still 6 0 rfl rfl, ⟨s.still 6 1 rfl rfl, (s.lit (ty := .int .i64) 1 rfl [] 0 rfl rfl).app 1 rfl (Sp.rf2_ s (j + 7) hj).2 b3 fun s326 w313 s => ⟨s.still 6 0 rfl rfl, s.app 1 rfl ((s.lit (ty := .int .i64) 0 rfl [len] 1 rfl rfl).view 0 rfl) b4 fun s327 w314 s => ⟨s.still 6 0 rfl rfl, s.st0 4 rfl rfl rfl fun w315 s => ⟨s.still 6 0 rfl rfl, s.ld0 (ty := yevergreenref12_Store) (x := (s325, s327)) 4 rfl rfl (h _ _ _ (s.pick [2, 1] 7 rfl (by decide)))⟩⟩⟩⟩⟩⟩⟩⟩⟩⟩,
s.allocK fun a329 w316 s => ⟨s.still 5 0 rfl rfl, ⟨s.still 5 1 rfl rfl, ⟨s.app 1 rfl ((s.lit (ty := yapi_Rule) 2 rfl [e.1] 1 (by simp [flat]) rfl).view 2 rfl) b2 fun s330 w317 s => ⟨s.still 5 0 rfl rfl, ⟨s.still 5 1 rfl rfl, s.allocK fun a331 w318 s => ⟨s.still 6 0 rfl rfl, ⟨s.still 6 1 rfl rfl, (s.lit (ty := .int .i64) 0 rfl [] 0 rfl rfl).app 0 rfl (Sp.rf2_ s (j + 7) hj).2 b3 fun s332 w319 s => ⟨s.still 6 0 rfl rfl, s.app 0 rfl ((s.lit (ty := .int .i64) 1 rfl [len] 1 rfl rfl).view 1 rfl) b4 fun s333 w320 s => ⟨s.still 6 0 rfl rfl, s.st0 4 rfl rfl rfl fun w321 s => ⟨s.still 6 0 rfl rfl, s.ld0 (ty := yevergreenref12_Store) (x := (s330, s333)) 4 rfl rfl (h _ _ _ (s.pick [2, 0] 7 rfl (by decide)))⟩⟩⟩⟩⟩⟩⟩,
s.allocK fun a335 w322 s => ⟨s.still 6 0 rfl rfl, ⟨s.still 6 1 rfl rfl, s.app 2 rfl ((s.lit (ty := yapi_Rule) 3 rfl [e.1] 1 (by simp [flat]) rfl).view 3 rfl) b2 fun s336 w323 s => ⟨s.still 6 0 rfl rfl, ⟨s.still 6 1 rfl rfl, (s.lit (ty := .int .i64) 0 rfl [] 0 rfl rfl).app 0 rfl (Sp.rf2_ s (j + 7) hj).2 b3 fun s337 w324 s => ⟨s.still 6 0 rfl rfl, s.app 0 rfl ((s.lit (ty := .int .i64) 1 rfl [len] 1 rfl rfl).view 1 rfl) b4 fun s338 w325 s => ⟨s.still 6 0 rfl rfl, s.st0 4 rfl rfl rfl fun w326 s => ⟨s.still 6 0 rfl rfl, s.ld0 (ty := yevergreenref12_Store) (x := (s336, s338)) 4 rfl rfl (h _ _ _ (s.pick [2, 0] 7 rfl (by decide)))⟩⟩⟩⟩⟩⟩⟩⟩⟩⟩⟩⟩⟩⟩,
⟨s.allocK fun a340 w327 s => ⟨s.still 5 0 rfl rfl, ⟨s.still 5 1 rfl rfl, ⟨s.still 5 0 rfl rfl, ⟨(s.lit (ty := yapi_Rule) 1 rfl [] 0 rfl rfl).app 1 rfl (Sp.rf2_ s (j + 6) hj).1 b1 fun s341 w328 s => ⟨s.still 5 0 rfl rfl, ⟨s.still 5 1 rfl rfl, ⟨s.app 1 rfl ((s.lit (ty := yapi_Rule) 2 rfl [e.1] 1 (by simp [flat]) rfl).view 2 rfl) b2 fun s342 w329 s => ⟨s.still 5 0 rfl rfl, ⟨s.still 5 1 rfl rfl, ⟨(s.lit (ty := .int .i64) 0 rfl [] 0 rfl rfl).app 0 rfl (Sp.rf2_ s (j + 6) hj).2 b3 fun s343 w330 s => ⟨s.still 5 0 rfl rfl, s.allocK fun a344 w331 s => ⟨s.still 6 0 rfl rfl, s.app 1 rfl ((s.lit (ty := .int .i64) 0 rfl [len] 1 rfl rfl).view 0 rfl) b4 fun s345 w332 s => ⟨s.still 6 0 rfl rfl, s.st0 4 rfl rfl rfl fun w333 s => ⟨s.still 6 0 rfl rfl, s.ld0 (ty := yevergreenref12_Store) (x := (s342, s345)) 4 rfl rfl (h _ _ _ (s.pick [2, 1] 7 rfl (by decide)))⟩⟩⟩⟩,
s.allocK fun a347 w334 s => ⟨s.still 6 0 rfl rfl, ⟨s.still 6 1 rfl rfl, (s.lit (ty := .int .i64) 1 rfl [] 0 rfl rfl).app 1 rfl (Sp.rf2_ s (j + 7) hj).2 b3 fun s348 w335 s => ⟨s.still 6 0 rfl rfl, s.app 1 rfl ((s.lit (ty := .int .i64) 0 rfl [len] 1 rfl rfl).view 0 rfl) b4 fun s349 w336 s => ⟨s.still 6 0 rfl rfl, s.st0 4 rfl rfl rfl fun w337 s => ⟨s.still 6 0 rfl rfl, s.ld0 (ty := yevergreenref12_Store) (x := (s342, s349)) 4 rfl rfl (h _ _ _ (s.pick [2, 1] 7 rfl (by decide)))⟩⟩⟩⟩⟩⟩⟩⟩,
s.allocK fun a351 w338 s => ⟨s.still 6 0 rfl rfl, ⟨s.still 6 1 rfl rfl, s.app 2 rfl ((s.lit (ty := yapi_Rule) 3 rfl [e.1] 1 (by simp [flat]) rfl).view 3 rfl) b2 fun s352 w339 s => ⟨s.still 6 0 rfl rfl, ⟨s.still 6 1 rfl rfl, (s.lit (ty := .int .i64) 1 rfl [] 0 rfl rfl).app 1 rfl (Sp.rf2_ s (j + 7) hj).2 b3 fun s353 w340 s => ⟨s.still 6 0 rfl rfl, s.app 1 rfl ((s.lit (ty := .int .i64) 0 rfl [len] 1 rfl rfl).view 0 rfl) b4 fun s354 w341 s => ⟨s.still 6 0 rfl rfl, s.st0 4 rfl rfl rfl fun w342 s => ⟨s.still 6 0 rfl rfl, s.ld0 (ty := yevergreenref12_Store) (x := (s352, s354)) 4 rfl rfl (h _ _ _ (s.pick [2, 1] 7 rfl (by decide)))⟩⟩⟩⟩⟩⟩⟩⟩⟩⟩,
s.allocK fun a356 w343 s => ⟨s.still 6 0 rfl rfl, ⟨s.still 6 1 rfl rfl, ⟨s.still 6 0 rfl rfl, (s.lit (ty := yapi_Rule) 2 rfl [] 0 rfl rfl).app 2 rfl (Sp.rf2_ s (j + 7) hj).1 b1 fun s357 w344 s => ⟨s.still 6 0 rfl rfl, ⟨s.still 6 1 rfl rfl, s.app 2 rfl ((s.lit (ty := yapi_Rule) 3 rfl [e.1] 1 (by simp [flat]) rfl).view 3 rfl) b2 fun s358 w345 s => ⟨s.still 6 0 rfl rfl, ⟨s.still 6 1 rfl rfl, (s.lit (ty := .int .i64) 1 rfl [] 0 rfl rfl).app 1 rfl (Sp.rf2_ s (j + 7) hj).2 b3 fun s359 w346 s => ⟨s.still 6 0 rfl rfl, s.app 1 rfl ((s.lit (ty := .int .i64) 0 rfl [len] 1 rfl rfl).view 0 rfl) b4 fun s360 w347 s => ⟨s.still 6 0 rfl rfl, s.st0 4 rfl rfl rfl fun w348 s => ⟨s.still 6 0 rfl rfl, s.ld0 (ty := yevergreenref12_Store) (x := (s358, s360)) 4 rfl rfl (h _ _ _ (s.pick [2, 1] 7 rfl (by decide)))⟩⟩⟩⟩⟩⟩⟩⟩⟩⟩⟩⟩⟩⟩,
s.allocK fun a362 w349 s => ⟨s.still 5 0 rfl rfl, ⟨s.still 5 1 rfl rfl, ⟨s.still 5 0 rfl rfl, ⟨(s.lit (ty := yapi_Rule) 1 rfl [] 0 rfl rfl).app 1 rfl (Sp.rf2_ s (j + 6) hj).1 b1 fun s363 w350 s => ⟨s.still 5 0 rfl rfl, ⟨s.still 5 1 rfl rfl, ⟨s.app 1 rfl ((s.lit (ty := yapi_Rule) 2 rfl [e.1] 1 (by simp [flat]) rfl).view 2 rfl) b2 fun s364 w351 s => ⟨s.still 5 0 rfl rfl, ⟨s.still 5 1 rfl rfl, s.allocK fun a365 w352 s => ⟨s.still 6 0 rfl rfl, ⟨s.still 6 1 rfl rfl, (s.lit (ty := .int .i64) 0 rfl [] 0 rfl rfl).app 0 rfl (Sp.rf2_ s (j + 7) hj).2 b3 fun s366 w353 s => ⟨s.still 6 0 rfl rfl, s.app 0 rfl ((s.lit (ty := .int .i64) 1 rfl [len] 1 rfl rfl).view 1 rfl) b4 fun s367 w354 s => ⟨s.still 6 0 rfl rfl, s.st0 4 rfl rfl rfl fun w355 s => ⟨s.still 6 0 rfl rfl, s.ld0 (ty := yevergreenref12_Store) (x := (s364, s367)) 4 rfl rfl (h _ _ _ (s.pick [2, 0] 7 rfl (by decide)))⟩⟩⟩⟩⟩⟩⟩,
s.allocK fun a369 w356 s => ⟨s.still 6 0 rfl rfl, ⟨s.still 6 1 rfl rfl, s.app 2 rfl ((s.lit (ty := yapi_Rule) 3 rfl [e.1] 1 (by simp [flat]) rfl).view 3 rfl) b2 fun s370 w357 s => ⟨s.still 6 0 rfl rfl, ⟨s.still 6 1 rfl rfl, (s.lit (ty := .int .i64) 0 rfl [] 0 rfl rfl).app 0 rfl (Sp.rf2_ s (j + 7) hj).2 b3 fun s371 w358 s => ⟨s.still 6 0 rfl rfl, s.app 0 rfl ((s.lit (ty := .int .i64) 1 rfl [len] 1 rfl rfl).view 1 rfl) b4 fun s372 w359 s => ⟨s.still 6 0 rfl rfl, s.st0 4 rfl rfl rfl fun w360 s => ⟨s.still 6 0 rfl rfl, s.ld0 (ty := yevergreenref12_Store) (x := (s370, s372)) 4 rfl rfl (h _ _ _ (s.pick [2, 0] 7 rfl (by decide)))⟩⟩⟩⟩⟩⟩⟩⟩⟩⟩,
s.allocK fun a374 w361 s => ⟨s.still 6 0 rfl rfl, ⟨s.still 6 1 rfl rfl, ⟨s.still 6 0 rfl rfl, (s.lit (ty := yapi_Rule) 2 rfl [] 0 rfl rfl).app 2 rfl (Sp.rf2_ s (j + 7) hj).1 b1 fun s375 w362 s => ⟨s.still 6 0 rfl rfl, ⟨s.still 6 1 rfl rfl, s.app 2 rfl ((s.lit (ty := yapi_Rule) 3 rfl [e.1] 1 (by simp [flat]) rfl).view 3 rfl) b2 fun s376 w363 s => ⟨s.still 6 0 rfl rfl, ⟨s.still 6 1 rfl rfl, (s.lit (ty := .int .i64) 0 rfl [] 0 rfl rfl).app 0 rfl (Sp.rf2_ s (j + 7) hj).2 b3 fun s377 w364 s => ⟨s.still 6 0 rfl rfl, s.app 0 rfl ((s.lit (ty := .int .i64) 1 rfl [len] 1 rfl rfl).view 1 rfl) b4 fun s378 w365 s => ⟨s.still 6 0 rfl rfl, s.st0 4 rfl rfl rfl fun w366 s => ⟨s.still 6 0 rfl rfl, s.ld0 (ty := yevergreenref12_Store) (x := (s376, s378)) 4 rfl rfl (h _ _ _ (s.pick [2, 0] 7 rfl (by decide)))⟩⟩⟩⟩⟩⟩⟩⟩⟩⟩⟩⟩⟩⟩⟩⟩⟩⟩⟩,
⟨s.allocK fun a380 w367 s => ⟨s.still 4 0 rfl rfl, ⟨s.still 4 1 rfl rfl, ⟨s.still 4 0 rfl rfl, ⟨s.allocK fun a381 w368 s => ⟨s.still 5 0 rfl rfl, ⟨s.still 5 1 rfl rfl, ⟨s.still 5 0 rfl rfl, ⟨(s.lit (ty := yapi_Rule) 0 rfl [] 0 rfl rfl).app 0 rfl (Sp.rf2_ s (j + 6) hj).1 b1 fun s382 w369 s => ⟨s.still 5 0 rfl rfl, ⟨s.still 5 1 rfl rfl, ⟨s.app 0 rfl ((s.lit (ty := yapi_Rule) 2 rfl [e.1] 1 (by simp [flat]) rfl).view 2 rfl) b2 fun s383 w370 s => ⟨s.still 5 0 rfl rfl, ⟨s.still 5 1 rfl rfl, ⟨(s.lit (ty := .int .i64) 1 rfl [] 0 rfl rfl).app 1 rfl (Sp.rf2_ s (j + 6) hj).2 b3 fun s384 w371 s => ⟨s.still 5 0 rfl rfl, s.allocK fun a385 w372 s => ⟨s.still 6 0 rfl rfl, s.app 2 rfl ((s.lit (ty := .int .i64) 0 rfl [len] 1 rfl rfl).view 0 rfl) b4 fun s386 w373 s => ⟨s.still 6 0 rfl rfl, s.st0 4 rfl rfl rfl fun w374 s => ⟨s.still 6 0 rfl rfl, s.ld0 (ty := yevergreenref12_Store) (x := (s383, s386)) 4 rfl rfl (h _ _ _ (s.pick [1, 2] 7 rfl (by decide)))⟩⟩⟩⟩,
s.allocK fun a388 w375 s => ⟨s.still 6 0 rfl rfl, ⟨s.still 6 1 rfl rfl, (s.lit (ty := .int .i64) 2 rfl [] 0 rfl rfl).app 2 rfl (Sp.rf2_ s (j + 7) hj).2 b3 fun s389 w376 s => ⟨s.still 6 0 rfl rfl, s.app 2 rfl ((s.lit (ty := .int .i64) 0 rfl [len] 1 rfl rfl).view 0 rfl) b4 fun s390 w377 s => ⟨s.still 6 0 rfl rfl, s.st0 4 rfl rfl rfl fun w378 s => ⟨s.still 6 0 rfl rfl, s.ld0 (ty := yevergreenref12_Store) (x := (s383, s390)) 4 rfl rfl (h _ _ _ (s.pick [1, 2] 7 rfl (by decide)))⟩⟩⟩⟩⟩⟩⟩⟩,
s.allocK fun a392 w379 s => ⟨s.still 6 0 rfl rfl, ⟨s.still 6 1 rfl rfl, s.app 1 rfl ((s.lit (ty := yapi_Rule) 3 rfl [e.1] 1 (by simp [flat]) rfl).view 3 rfl) b2 fun s393 w380 s => ⟨s.still 6 0 rfl rfl, ⟨s.still 6 1 rfl rfl, (s.lit (ty := .int .i64) 2 rfl [] 0 rfl rfl).app 2 rfl (Sp.rf2_ s (j + 7) hj).2 b3 fun s394 w381 s => ⟨s.still 6 0 rfl rfl, s.app 2 rfl ((s.lit (ty := .int .i64) 0 rfl [len] 1 rfl rfl).view 0 rfl) b4 fun s395 w382 s => ⟨s.still 6 0 rfl rfl, s.st0 4 rfl rfl rfl fun w383 s => ⟨s.still 6 0 rfl rfl, s.ld0 (ty := yevergreenref12_Store) (x := (s393, s395)) 4 rfl rfl (h _ _ _ (s.pick [1, 2] 7 rfl (by decide)))⟩⟩⟩⟩⟩⟩⟩⟩⟩⟩,
s.allocK fun a397 w384 s => ⟨s.still 6 0 rfl rfl, ⟨s.still 6 1 rfl rfl, ⟨s.still 6 0 rfl rfl, (s.lit (ty := yapi_Rule) 1 rfl [] 0 rfl rfl).app 1 rfl (Sp.rf2_ s (j + 7) hj).1 b1 fun s398 w385 s => ⟨s.still 6 0 rfl rfl, ⟨s.still 6 1 rfl rfl, s.app 1 rfl ((s.lit (ty := yapi_Rule) 3 rfl [e.1] 1 (by simp [flat]) rfl).view 3 rfl) b2 fun s399 w386 s => ⟨s.still 6 0 rfl rfl, ⟨s.still 6 1 rfl rfl, (s.lit (ty := .int .i64) 2 rfl [] 0 rfl rfl).app 2 rfl (Sp.rf2_ s (j + 7) hj).2 b3 fun s400 w387 s => ⟨s.still 6 0 rfl rfl, s.app 2 rfl ((s.lit (ty := .int .i64) 0 rfl [len] 1 rfl rfl).view 0 rfl) b4 fun s401 w388 s => ⟨s.still 6 0 rfl rfl, s.st0 4 rfl rfl rfl fun w389 s => ⟨s.still 6 0 rfl rfl, s.ld0 (ty := yevergreenref12_Store) (x := (s399, s401)) 4 rfl rfl (h _ _ _ (s.pick [1, 2] 7 rfl (by decide)))⟩⟩⟩⟩⟩⟩⟩⟩⟩⟩⟩⟩⟩⟩,
s.allocK fun a403 w390 s => ⟨s.still 5 0 rfl rfl, ⟨s.still 5 1 rfl rfl, ⟨s.still 5 0 rfl rfl, s.allocK fun a404 w391 s => ⟨s.still 6 0 rfl rfl, ⟨s.still 6 1 rfl rfl, ⟨s.still 6 0 rfl rfl, (s.lit (ty := yapi_Rule) 0 rfl [] 0 rfl rfl).app 0 rfl (Sp.rf2_ s (j + 7) hj).1 b1 fun s405 w392 s => ⟨s.still 6 0 rfl rfl, ⟨s.still 6 1 rfl rfl, s.app 0 rfl ((s.lit (ty := yapi_Rule) 3 rfl [e.1] 1 (by simp [flat]) rfl).view 3 rfl) b2 fun s406 w393 s => ⟨s.still 6 0 rfl rfl, ⟨s.still 6 1 rfl rfl, (s.lit (ty := .int .i64) 2 rfl [] 0 rfl rfl).app 2 rfl (Sp.rf2_ s (j + 7) hj).2 b3 fun s407 w394 s => ⟨s.still 6 0 rfl rfl, s.app 2 rfl ((s.lit (ty := .int .i64) 1 rfl [len] 1 rfl rfl).view 1 rfl) b4 fun s408 w395 s => ⟨s.still 6 0 rfl rfl, s.st0 4 rfl rfl rfl fun w396 s => ⟨s.still 6 0 rfl rfl, s.ld0 (ty := yevergreenref12_Store) (x := (s406, s408)) 4 rfl rfl (h _ _ _ (s.pick [0, 2] 7 rfl (by decide)))⟩⟩⟩⟩⟩⟩⟩⟩⟩⟩⟩⟩⟩⟩⟩⟩⟩,
s.allocK fun a410 w397 s => ⟨s.still 4 0 rfl rfl, ⟨s.still 4 1 rfl rfl, ⟨s.still 4 0 rfl rfl, ⟨s.allocK fun a411 w398 s => ⟨s.still 5 0 rfl rfl, ⟨s.still 5 1 rfl rfl, ⟨s.still 5 0 rfl rfl, ⟨(s.lit (ty := yapi_Rule) 0 rfl [] 0 rfl rfl).app 0 rfl (Sp.rf2_ s (j + 6) hj).1 b1 fun s412 w399 s => ⟨s.still 5 0 rfl rfl, ⟨s.still 5 1 rfl rfl, ⟨s.app 0 rfl ((s.lit (ty := yapi_Rule) 2 rfl [e.1] 1 (by simp [flat]) rfl).view 2 rfl) b2 fun s413 w400 s => ⟨s.still 5 0 rfl rfl, ⟨s.still 5 1 rfl rfl, s.allocK fun a414 w401 s => ⟨s.still 6 0 rfl rfl, ⟨s.still 6 1 rfl rfl, (s.lit (ty := .int .i64) 0 rfl [] 0 rfl rfl).app 0 rfl (Sp.rf2_ s (j + 7) hj).2 b3 fun s415 w402 s => ⟨s.still 6 0 rfl rfl, s.app 0 rfl ((s.lit (ty := .int .i64) 2 rfl [len] 1 rfl rfl).view 2 rfl) b4 fun s416 w403 s => ⟨s.still 6 0 rfl rfl, s.st0 4 rfl rfl rfl fun w404 s => ⟨s.still 6 0 rfl rfl, s.ld0 (ty := yevergreenref12_Store) (x := (s413, s416)) 4 rfl rfl (h _ _ _ (s.pick [1, 0] 7 rfl (by decide)))⟩⟩⟩⟩⟩⟩⟩,
s.allocK fun a418 w405 s => ⟨s.still 6 0 rfl rfl, ⟨s.still 6 1 rfl rfl, s.app 1 rfl ((s.lit (ty := yapi_Rule) 3 rfl [e.1] 1 (by simp [flat]) rfl).view 3 rfl) b2 fun s419 w406 s => ⟨s.still 6 0 rfl rfl, ⟨s.still 6 1 rfl rfl, (s.lit (ty := .int .i64) 0 rfl [] 0 rfl rfl).app 0 rfl (Sp.rf2_ s (j + 7) hj).2 b3 fun s420 w407 s => ⟨s.still 6 0 rfl rfl, s.app 0 rfl ((s.lit (ty := .int .i64) 2 rfl [len] 1 rfl rfl).view 2 rfl) b4 fun s421 w408 s => ⟨s.still 6 0 rfl rfl, s.st0 4 rfl rfl rfl fun w409 s => ⟨s.still 6 0 rfl rfl, s.ld0 (ty := yevergreenref12_Store) (x := (s419, s421)) 4 rfl rfl (h _ _ _ (s.pick [1, 0] 7 rfl (by decide)))⟩⟩⟩⟩⟩⟩⟩⟩⟩⟩,
s.allocK fun a423 w410 s => ⟨s.still 6 0 rfl rfl, ⟨s.still 6 1 rfl rfl, ⟨s.still 6 0 rfl rfl, (s.lit (ty := yapi_Rule) 1 rfl [] 0 rfl rfl).app 1 rfl (Sp.rf2_ s (j + 7) hj).1 b1 fun s424 w411 s => ⟨s.still 6 0 rfl rfl, ⟨s.still 6 1 rfl rfl, s.app 1 rfl ((s.lit (ty := yapi_Rule) 3 rfl [e.1] 1 (by simp [flat]) rfl).view 3 rfl) b2 fun s425 w412 s => ⟨s.still 6 0 rfl rfl, ⟨s.still 6 1 rfl rfl, (s.lit (ty := .int .i64) 0 rfl [] 0 rfl rfl).app 0 rfl (Sp.rf2_ s (j + 7) hj).2 b3 fun s426 w413 s => ⟨s.still 6 0 rfl rfl, s.app 0 rfl ((s.lit (ty := .int .i64) 2 rfl [len] 1 rfl rfl).view 2 rfl) b4 fun s427 w414 s => ⟨s.still 6 0 rfl rfl, s.st0 4 rfl rfl rfl fun w415 s => ⟨s.still 6 0 rfl rfl, s.ld0 (ty := yevergreenref12_Store) (x := (s425, s427)) 4 rfl rfl (h _ _ _ (s.pick [1, 0] 7 rfl (by decide)))⟩⟩⟩⟩⟩⟩⟩⟩⟩⟩⟩⟩⟩⟩,
s.allocK fun a429 w416 s => ⟨s.still 5 0 rfl rfl, ⟨s.still 5 1 rfl rfl, ⟨s.still 5 0 rfl rfl, s.allocK fun a430 w417 s => ⟨s.still 6 0 rfl rfl, ⟨s.still 6 1 rfl rfl, ⟨s.still 6 0 rfl rfl, (s.lit (ty := yapi_Rule) 0 rfl [] 0 rfl rfl).app 0 rfl (Sp.rf2_ s (j + 7) hj).1 b1 fun s431 w418 s => ⟨s.still 6 0 rfl rfl, ⟨s.still 6 1 rfl rfl, s.app 0 rfl ((s.lit (ty := yapi_Rule) 3 rfl [e.1] 1 (by simp [flat]) rfl).view 3 rfl) b2 fun s432 w419 s => ⟨s.still 6 0 rfl rfl, ⟨s.still 6 1 rfl rfl, (s.lit (ty := .int .i64) 1 rfl [] 0 rfl rfl).app 1 rfl (Sp.rf2_ s (j + 7) hj).2 b3 fun s433 w420 s => ⟨s.still 6 0 rfl rfl, s.app 1 rfl ((s.lit (ty := .int .i64) 2 rfl [len] 1 rfl rfl).view 2 rfl) b4 fun s434 w421 s => ⟨s.still 6 0 rfl rfl, s.st0 4 rfl rfl rfl fun w422 s => ⟨s.still 6 0 rfl rfl, s.ld0 (ty := yevergreenref12_Store) (x := (s432, s434)) 4 rfl rfl (h _ _ _ (s.pick [0, 1] 7 rfl (by decide)))⟩⟩⟩⟩⟩⟩⟩⟩⟩⟩⟩⟩⟩⟩⟩⟩⟩⟩⟩⟩⟩⟩,
⟨s.allocK fun a436 w423 s => ⟨s.still 3 0 rfl rfl, ⟨s.still 3 1 rfl rfl, ⟨s.at_ 2 rfl, ⟨s.still 3 0 rfl rfl, ⟨s.allocK fun a437 w424 s => ⟨s.still 4 0 rfl rfl, ⟨s.still 4 1 rfl rfl, ⟨s.at_ 3 rfl, ⟨s.still 4 0 rfl rfl, ⟨(s.lit (ty := yapi_Rule) 0 rfl [] 0 rfl rfl).app 0 rfl (Sp.rf2_ s (j + 5) hj).1 b1 fun s438 w425 s => ⟨s.still 4 0 rfl rfl, ⟨s.still 4 1 rfl rfl, ⟨s.at_ 3 rfl, ⟨s.allocK fun a439 w426 s => ⟨s.still 5 0 rfl rfl, ⟨s.still 5 1 rfl rfl, ⟨s.app 1 rfl ((s.lit (ty := yapi_Rule) 0 rfl [e.1] 1 (by simp [flat]) rfl).view 0 rfl) b2 fun s440 w427 s => ⟨s.still 5 0 rfl rfl, ⟨s.still 5 1 rfl rfl, ⟨(s.lit (ty := .int .i64) 2 rfl [] 0 rfl rfl).app 2 rfl (Sp.rf2_ s (j + 6) hj).2 b3 fun s441 w428 s => ⟨s.still 5 0 rfl rfl, s.allocK fun a442 w429 s => ⟨s.still 6 0 rfl rfl, s.app 3 rfl ((s.lit (ty := .int .i64) 0 rfl [len] 1 rfl rfl).view 0 rfl) b4 fun s443 w430 s => ⟨s.still 6 0 rfl rfl, s.st0 4 rfl rfl rfl fun w431 s => ⟨s.still 6 0 rfl rfl, s.ld0 (ty := yevergreenref12_Store) (x := (s440, s443)) 4 rfl rfl (h _ _ _ (s.pick [2, 3] 7 rfl (by decide)))⟩⟩⟩⟩,
s.allocK fun a445 w432 s => ⟨s.still 6 0 rfl rfl, ⟨s.still 6 1 rfl rfl, (s.lit (ty := .int .i64) 3 rfl [] 0 rfl rfl).app 3 rfl (Sp.rf2_ s (j + 7) hj).2 b3 fun s446 w433 s => ⟨s.still 6 0 rfl rfl, s.app 3 rfl ((s.lit (ty := .int .i64) 0 rfl [len] 1 rfl rfl).view 0 rfl) b4 fun s447 w434 s => ⟨s.still 6 0 rfl rfl, s.st0 4 rfl rfl rfl fun w435 s => ⟨s.still 6 0 rfl rfl, s.ld0 (ty := yevergreenref12_Store) (x := (s440, s447)) 4 rfl rfl (h _ _ _ (s.pick [2, 3] 7 rfl (by decide)))⟩⟩⟩⟩⟩⟩⟩⟩,
s.allocK fun a449 w436 s => ⟨s.still 6 0 rfl rfl, ⟨s.still 6 1 rfl rfl, s.app 2 rfl ((s.lit (ty := yapi_Rule) 1 rfl [e.1] 1 (by simp [flat]) rfl).view 1 rfl) b2 fun s450 w437 s => ⟨s.still 6 0 rfl rfl, ⟨s.still 6 1 rfl rfl, (s.lit (ty := .int .i64) 3 rfl [] 0 rfl rfl).app 3 rfl (Sp.rf2_ s (j + 7) hj).2 b3 fun s451 w438 s => ⟨s.still 6 0 rfl rfl, s.app 3 rfl ((s.lit (ty := .int .i64) 0 rfl [len] 1 rfl rfl).view 0 rfl) b4 fun s452 w439 s => ⟨s.still 6 0 rfl rfl, s.st0 4 rfl rfl rfl fun w440 s => ⟨s.still 6 0 rfl rfl, s.ld0 (ty := yevergreenref12_Store) (x := (s450, s452)) 4 rfl rfl (h _ _ _ (s.pick [2, 3] 7 rfl (by decide)))⟩⟩⟩⟩⟩⟩⟩⟩⟩⟩,
s.allocK fun a454 w441 s => ⟨s.still 5 0 rfl rfl, ⟨s.still 5 1 rfl rfl, ⟨s.at_ 4 rfl, s.allocK fun a455 w442 s => ⟨s.still 6 0 rfl rfl, ⟨s.still 6 1 rfl rfl, s.app 2 rfl ((s.lit (ty := yapi_Rule) 0 rfl [e.1] 1 (by simp [flat]) rfl).view 0 rfl) b2 fun s456 w443 s => ⟨s.still 6 0 rfl rfl, ⟨s.still 6 1 rfl rfl, (s.lit (ty := .int .i64) 3 rfl [] 0 rfl rfl).app 3 rfl (Sp.rf2_ s (j + 7) hj).2 b3 fun s457 w444 s => ⟨s.still 6 0 rfl rfl, s.app 3 rfl ((s.lit (ty := .int .i64) 1 rfl [len] 1 rfl rfl).view 1 rfl) b4 fun s458 w445 s => ⟨s.still 6 0 rfl rfl, s.st0 4 rfl rfl rfl fun w446 s => ⟨s.still 6 0 rfl rfl, s.ld0 (ty := yevergreenref12_Store) (x := (s456, s458)) 4 rfl rfl (h _ _ _ (s.pick [2, 3] 7 rfl (by decide)))⟩⟩⟩⟩⟩⟩⟩⟩⟩⟩⟩⟩⟩⟩,
⟨s.allocK fun a460 w447 s => ⟨s.still 5 0 rfl rfl, ⟨s.still 5 1 rfl rfl, ⟨s.still 5 0 rfl rfl, ⟨(s.lit (ty := yapi_Rule) 1 rfl [] 0 rfl rfl).app 1 rfl (Sp.rf2_ s (j + 6) hj).1 b1 fun s461 w448 s => ⟨s.still 5 0 rfl rfl, ⟨s.still 5 1 rfl rfl, ⟨s.app 1 rfl ((s.lit (ty := yapi_Rule) 0 rfl [e.1] 1 (by simp [flat]) rfl).view 0 rfl) b2 fun s462 w449 s => ⟨s.still 5 0 rfl rfl, ⟨s.still 5 1 rfl rfl, ⟨(s.lit (ty := .int .i64) 2 rfl [] 0 rfl rfl).app 2 rfl (Sp.rf2_ s (j + 6) hj).2 b3 fun s463 w450 s => ⟨s.still 5 0 rfl rfl, s.allocK fun a464 w451 s => ⟨s.still 6 0 rfl rfl, s.app 3 rfl ((s.lit (ty := .int .i64) 0 rfl [len] 1 rfl rfl).view 0 rfl) b4 fun s465 w452 s => ⟨s.still 6 0 rfl rfl, s.st0 4 rfl rfl rfl fun w453 s => ⟨s.still 6 0 rfl rfl, s.ld0 (ty := yevergreenref12_Store) (x := (s462, s465)) 4 rfl rfl (h _ _ _ (s.pick [2, 3] 7 rfl (by decide)))⟩⟩⟩⟩,
s.allocK fun a467 w454 s => ⟨s.still 6 0 rfl rfl, ⟨s.still 6 1 rfl rfl, (s.lit (ty := .int .i64) 3 rfl [] 0 rfl rfl).app 3 rfl (Sp.rf2_ s (j + 7) hj).2 b3 fun s468 w455 s => ⟨s.still 6 0 rfl rfl, s.app 3 rfl ((s.lit (ty := .int .i64) 0 rfl [len] 1 rfl rfl).view 0 rfl) b4 fun s469 w456 s => ⟨s.still 6 0 rfl rfl, s.st0 4 rfl rfl rfl fun w457 s => ⟨s.still 6 0 rfl rfl, s.ld0 (ty := yevergreenref12_Store) (x := (s462, s469)) 4 rfl rfl (h _ _ _ (s.pick [2, 3] 7 rfl (by decide)))⟩⟩⟩⟩⟩⟩⟩⟩,
s.allocK fun a471 w458 s => ⟨s.still 6 0 rfl rfl, ⟨s.still 6 1 rfl rfl, s.app 2 rfl ((s.lit (ty := yapi_Rule) 1 rfl [e.1] 1 (by simp [flat]) rfl).view 1 rfl) b2 fun s472 w459 s => ⟨s.still 6 0 rfl rfl, ⟨s.still 6 1 rfl rfl, (s.lit (ty := .int .i64) 3 rfl [] 0 rfl rfl).app 3 rfl (Sp.rf2_ s (j + 7) hj).2 b3 fun s473 w460 s => ⟨s.still 6 0 rfl rfl, s.app 3 rfl ((s.lit (ty := .int .i64) 0 rfl [len] 1 rfl rfl).view 0 rfl) b4 fun s474 w461 s => ⟨s.still 6 0 rfl rfl, s.st0 4 rfl rfl rfl fun w462 s => ⟨s.still 6 0 rfl rfl, s.ld0 (ty := yevergreenref12_Store) (x := (s472, s474)) 4 rfl rfl (h _ _ _ (s.pick [2, 3] 7 rfl (by decide)))⟩⟩⟩⟩⟩⟩⟩⟩⟩⟩,
s.allocK fun a476 w463 s => ⟨s.still 6 0 rfl rfl, ⟨s.still 6 1 rfl rfl, ⟨s.still 6 0 rfl rfl, (s.lit (ty := yapi_Rule) 2 rfl [] 0 rfl rfl).app 2 rfl (Sp.rf2_ s (j + 7) hj).1 b1 fun s477 w464 s => ⟨s.still 6 0 rfl rfl, ⟨s.still 6 1 rfl rfl, s.app 2 rfl ((s.lit (ty := yapi_Rule) 1 rfl [e.1] 1 (by simp [flat]) rfl).view 1 rfl) b2 fun s478 w465 s => ⟨s.still 6 0 rfl rfl, ⟨s.still 6 1 rfl rfl, (s.lit (ty := .int .i64) 3 rfl [] 0 rfl rfl).app 3 rfl (Sp.rf2_ s (j + 7) hj).2 b3 fun s479 w466 s => ⟨s.still 6 0 rfl rfl, s.app 3 rfl ((s.lit (ty := .int .i64) 0 rfl [len] 1 rfl rfl).view 0 rfl) b4 fun s480 w467 s => ⟨s.still 6 0 rfl rfl, s.st0 4 rfl rfl rfl fun w468 s => ⟨s.still 6 0 rfl rfl, s.ld0 (ty := yevergreenref12_Store) (x := (s478, s480)) 4 rfl rfl (h _ _ _ (s.pick [2, 3] 7 rfl (by decide)))⟩⟩⟩⟩⟩⟩⟩⟩⟩⟩⟩⟩⟩⟩,
s.allocK fun a482 w469 s => ⟨s.still 5 0 rfl rfl, ⟨s.still 5 1 rfl rfl, ⟨s.at_ 4 rfl, ⟨s.still 5 0 rfl rfl, ⟨(s.lit (ty := yapi_Rule) 1 rfl [] 0 rfl rfl).app 1 rfl (Sp.rf2_ s (j + 6) hj).1 b1 fun s483 w470 s => ⟨s.still 5 0 rfl rfl, ⟨s.still 5 1 rfl rfl, ⟨s.at_ 4 rfl, s.allocK fun a484 w471 s => ⟨s.still 6 0 rfl rfl, ⟨s.still 6 1 rfl rfl, s.app 2 rfl ((s.lit (ty := yapi_Rule) 0 rfl [e.1] 1 (by simp [flat]) rfl).view 0 rfl) b2 fun s485 w472 s => ⟨s.still 6 0 rfl rfl, ⟨s.still 6 1 rfl rfl, (s.lit (ty := .int .i64) 3 rfl [] 0 rfl rfl).app 3 rfl (Sp.rf2_ s (j + 7) hj).2 b3 fun s486 w473 s => ⟨s.still 6 0 rfl rfl, s.app 3 rfl ((s.lit (ty := .int .i64) 1 rfl [len] 1 rfl rfl).view 1 rfl) b4 fun s487 w474 s => ⟨s.still 6 0 rfl rfl, s.st0 4 rfl rfl rfl fun w475 s => ⟨s.still 6 0 rfl rfl, s.ld0 (ty := yevergreenref12_Store) (x := (s485, s487)) 4 rfl rfl (h _ _ _ (s.pick [2, 3] 7 rfl (by decide)))⟩⟩⟩⟩⟩⟩⟩⟩⟩⟩,
s.allocK fun a489 w476 s => ⟨s.still 6 0 rfl rfl, ⟨s.still 6 1 rfl rfl, ⟨s.still 6 0 rfl rfl, (s.lit (ty := yapi_Rule) 2 rfl [] 0 rfl rfl).app 2 rfl (Sp.rf2_ s (j + 7) hj).1 b1 fun s490 w477 s => ⟨s.still 6 0 rfl rfl, ⟨s.still 6 1 rfl rfl, s.app 2 rfl ((s.lit (ty := yapi_Rule) 0 rfl [e.1] 1 (by simp [flat]) rfl).view 0 rfl) b2 fun s491 w478 s => ⟨s.still 6 0 rfl rfl, ⟨s.still 6 1 rfl rfl, (s.lit (ty := .int .i64) 3 rfl [] 0 rfl rfl).app 3 rfl (Sp.rf2_ s (j + 7) hj).2 b3 fun s492 w479 s => ⟨s.still 6 0 rfl rfl, s.app 3 rfl ((s.lit (ty := .int .i64) 1 rfl [len] 1 rfl rfl).view 1 rfl) b4 fun s493 w480 s => ⟨s.still 6 0 rfl rfl, s.st0 4 rfl rfl rfl fun w481 s => ⟨s.still 6 0 rfl rfl, s.ld0 (ty := yevergreenref12_Store) (x := (s491, s493)) 4 rfl rfl (h _ _ _ (s.pick [2, 3] 7 rfl (by decide)))⟩⟩⟩⟩⟩⟩⟩⟩⟩⟩⟩⟩⟩⟩⟩⟩⟩⟩⟩⟩⟩,
⟨s.allocK fun a495 w482 s => ⟨s.still 4 0 rfl rfl, ⟨s.still 4 1 rfl rfl, ⟨s.still 4 0 rfl rfl, ⟨s.allocK fun a496 w483 s => ⟨s.still 5 0 rfl rfl, ⟨s.still 5 1 rfl rfl, ⟨s.still 5 0 rfl rfl, ⟨(s.lit (ty := yapi_Rule) 0 rfl [] 0 rfl rfl).app 0 rfl (Sp.rf2_ s (j + 6) hj).1 b1 fun s497 w484 s => ⟨s.still 5 0 rfl rfl, ⟨s.still 5 1 rfl rfl, ⟨s.app 0 rfl ((s.lit (ty := yapi_Rule) 1 rfl [e.1] 1 (by simp [flat]) rfl).view 1 rfl) b2 fun s498 w485 s => ⟨s.still 5 0 rfl rfl, ⟨s.still 5 1 rfl rfl, ⟨(s.lit (ty := .int .i64) 2 rfl [] 0 rfl rfl).app 2 rfl (Sp.rf2_ s (j + 6) hj).2 b3 fun s499 w486 s => ⟨s.still 5 0 rfl rfl, s.allocK fun a500 w487 s => ⟨s.still 6 0 rfl rfl, s.app 3 rfl ((s.lit (ty := .int .i64) 0 rfl [len] 1 rfl rfl).view 0 rfl) b4 fun s501 w488 s => ⟨s.still 6 0 rfl rfl, s.st0 4 rfl rfl rfl fun w489 s => ⟨s.still 6 0 rfl rfl, s.ld0 (ty := yevergreenref12_Store) (x := (s498, s501)) 4 rfl rfl (h _ _ _ (s.pick [1, 3] 7 rfl (by decide)))⟩⟩⟩⟩,
s.allocK fun a503 w490 s => ⟨s.still 6 0 rfl rfl, ⟨s.still 6 1 rfl rfl, (s.lit (ty := .int .i64) 3 rfl [] 0 rfl rfl).app 3 rfl (Sp.rf2_ s (j + 7) hj).2 b3 fun s504 w491 s => ⟨s.still 6 0 rfl rfl, s.app 3 rfl ((s.lit (ty := .int .i64) 0 rfl [len] 1 rfl rfl).view 0 rfl) b4 fun s505 w492 s => ⟨s.still 6 0 rfl rfl, s.st0 4 rfl rfl rfl fun w493 s => ⟨s.still 6 0 rfl rfl, s.ld0 (ty := yevergreenref12_Store) (x := (s498, s505)) 4 rfl rfl (h _ _ _ (s.pick [1, 3] 7 rfl (by decide)))⟩⟩⟩⟩⟩⟩⟩⟩,
s.allocK fun a507 w494 s => ⟨s.still 6 0 rfl rfl, ⟨s.still 6 1 rfl rfl, s.app 1 rfl ((s.lit (ty := yapi_Rule) 2 rfl [e.1] 1 (by simp [flat]) rfl).view 2 rfl) b2 fun s508 w495 s => ⟨s.still 6 0 rfl rfl, ⟨s.still 6 1 rfl rfl, (s.lit (ty := .int .i64) 3 rfl [] 0 rfl rfl).app 3 rfl (Sp.rf2_ s (j + 7) hj).2 b3 fun s509 w496 s => ⟨s.still 6 0 rfl rfl, s.app 3 rfl ((s.lit (ty := .int .i64) 0 rfl [len] 1 rfl rfl).view 0 rfl) b4 fun s510 w497 s => ⟨s.still 6 0 rfl rfl, s.st0 4 rfl rfl rfl fun w498 s => ⟨s.still 6 0 rfl rfl, s.ld0 (ty := yevergreenref12_Store) (x := (s508, s510)) 4 rfl rfl (h _ _ _ (s.pick [1, 3] 7 rfl (by decide)))⟩⟩⟩⟩⟩⟩⟩⟩⟩⟩,
s.allocK fun a512 w499 s => ⟨s.still 6 0 rfl rfl, ⟨s.still 6 1 rfl rfl, ⟨s.still 6 0 rfl rfl, (s.lit (ty := yapi_Rule) 1 rfl [] 0 rfl rfl).app 1 rfl (Sp.rf2_ s (j + 7) hj).1 b1 fun s513 w500 s => ⟨s.still 6 0 rfl rfl, ⟨s.still 6 1 rfl rfl, s.app 1 rfl ((s.lit (ty := yapi_Rule) 2 rfl [e.1] 1 (by simp [flat]) rfl).view 2 rfl) b2 fun s514 w501 s => ⟨s.still 6 0 rfl rfl, ⟨s.still 6 1 rfl rfl, (s.lit (ty := .int .i64) 3 rfl [] 0 rfl rfl).app 3 rfl (Sp.rf2_ s (j + 7) hj).2 b3 fun s515 w502 s => ⟨s.still 6 0 rfl rfl, s.app 3 rfl ((s.lit (ty := .int .i64) 0 rfl [len] 1 rfl rfl).view 0 rfl) b4 fun s516 w503 s => ⟨s.still 6 0 rfl rfl, s.st0 4 rfl rfl rfl fun w504 s => ⟨s.still 6 0 rfl rfl, s.ld0 (ty := yevergreenref12_Store) (x := (s514, s516)) 4 rfl rfl (h _ _ _ (s.pick [1, 3] 7 rfl (by decide)))⟩⟩⟩⟩⟩⟩⟩⟩⟩⟩⟩⟩⟩⟩,
s.allocK fun a518 w505 s => ⟨s.still 5 0 rfl rfl, ⟨s.still 5 1 rfl rfl, ⟨s.still 5 0 rfl rfl, s.allocK fun a519 w506 s => ⟨s.still 6 0 rfl rfl, ⟨s.still 6 1 rfl rfl, ⟨s.still 6 0 rfl rfl, (s.lit (ty := yapi_Rule) 0 rfl [] 0 rfl rfl).app 0 rfl (Sp.rf2_ s (j + 7) hj).1 b1 fun s520 w507 s => ⟨s.still 6 0 rfl rfl, ⟨s.still 6 1 rfl rfl, s.app 0 rfl ((s.lit (ty := yapi_Rule) 2 rfl [e.1] 1 (by simp [flat]) rfl).view 2 rfl) b2 fun s521 w508 s => ⟨s.still 6 0 rfl rfl, ⟨s.still 6 1 rfl rfl, (s.lit (ty := .int .i64) 3 rfl [] 0 rfl rfl).app 3 rfl (Sp.rf2_ s (j + 7) hj).2 b3 fun s522 w509 s => ⟨s.still 6 0 rfl rfl, s.app 3 rfl ((s.lit (ty := .int .i64) 1 rfl [len] 1 rfl rfl).view 1 rfl) b4 fun s523 w510 s => ⟨s.still 6 0 rfl rfl, s.st0 4 rfl rfl rfl fun w511 s => ⟨s.still 6 0 rfl rfl, s.ld0 (ty := yevergreenref12_Store) (x := (s521, s523)) 4 rfl rfl (h _ _ _ (s.pick [0, 3] 7 rfl (by decide)))⟩⟩⟩⟩⟩⟩⟩⟩⟩⟩⟩⟩⟩⟩⟩⟩⟩,
s.allocK fun a525 w512 s => ⟨s.still 4 0 rfl rfl, ⟨s.still 4 1 rfl rfl, ⟨s.at_ 3 rfl, ⟨s.still 4 0 rfl rfl, ⟨s.allocK fun a526 w513 s => ⟨s.still 5 0 rfl rfl, ⟨s.still 5 1 rfl rfl, ⟨s.at_ 4 rfl, ⟨s.still 5 0 rfl rfl, ⟨(s.lit (ty := yapi_Rule) 0 rfl [] 0 rfl rfl).app 0 rfl (Sp.rf2_ s (j + 6) hj).1 b1 fun s527 w514 s => ⟨s.still 5 0 rfl rfl, ⟨s.still 5 1 rfl rfl, ⟨s.at_ 4 rfl, s.allocK fun a528 w515 s => ⟨s.still 6 0 rfl rfl, ⟨s.still 6 1 rfl rfl, s.app 1 rfl ((s.lit (ty := yapi_Rule) 0 rfl [e.1] 1 (by simp [flat]) rfl).view 0 rfl) b2 fun s529 w516 s => ⟨s.still 6 0 rfl rfl, ⟨s.still 6 1 rfl rfl, (s.lit (ty := .int .i64) 3 rfl [] 0 rfl rfl).app 3 rfl (Sp.rf2_ s (j + 7) hj).2 b3 fun s530 w517 s => ⟨s.still 6 0 rfl rfl, s.app 3 rfl ((s.lit (ty := .int .i64) 2 rfl [len] 1 rfl rfl).view 2 rfl) b4 fun s531 w518 s => ⟨s.still 6 0 rfl rfl, s.st0 4 rfl rfl rfl fun w519 s => ⟨s.still 6 0 rfl rfl, s.ld0 (ty := yevergreenref12_Store) (x := (s529, s531)) 4 rfl rfl (h _ _ _ (s.pick [1, 3] 7 rfl (by decide)))⟩⟩⟩⟩⟩⟩⟩⟩⟩⟩,
s.allocK fun a533 w520 s => ⟨s.still 6 0 rfl rfl, ⟨s.still 6 1 rfl rfl, ⟨s.still 6 0 rfl rfl, (s.lit (ty := yapi_Rule) 1 rfl [] 0 rfl rfl).app 1 rfl (Sp.rf2_ s (j + 7) hj).1 b1 fun s534 w521 s => ⟨s.still 6 0 rfl rfl, ⟨s.still 6 1 rfl rfl, s.app 1 rfl ((s.lit (ty := yapi_Rule) 0 rfl [e.1] 1 (by simp [flat]) rfl).view 0 rfl) b2 fun s535 w522 s => ⟨s.still 6 0 rfl rfl, ⟨s.still 6 1 rfl rfl, (s.lit (ty := .int .i64) 3 rfl [] 0 rfl rfl).app 3 rfl (Sp.rf2_ s (j + 7) hj).2 b3 fun s536 w523 s => ⟨s.still 6 0 rfl rfl, s.app 3 rfl ((s.lit (ty := .int .i64) 2 rfl [len] 1 rfl rfl).view 2 rfl) b4 fun s537 w524 s => ⟨s.still 6 0 rfl rfl, s.st0 4 rfl rfl rfl fun w525 s => ⟨s.still 6 0 rfl rfl, s.ld0 (ty := yevergreenref12_Store) (x := (s535, s537)) 4 rfl rfl (h _ _ _ (s.pick [1, 3] 7 rfl (by decide)))⟩⟩⟩⟩⟩⟩⟩⟩⟩⟩⟩⟩⟩⟩⟩,
s.allocK fun a539 w526 s => ⟨s.still 5 0 rfl rfl, ⟨s.still 5 1 rfl rfl, ⟨s.still 5 0 rfl rfl, s.allocK fun a540 w527 s => ⟨s.still 6 0 rfl rfl, ⟨s.still 6 1 rfl rfl, ⟨s.still 6 0 rfl rfl, (s.lit (ty := yapi_Rule) 0 rfl [] 0 rfl rfl).app 0 rfl (Sp.rf2_ s (j + 7) hj).1 b1 fun s541 w528 s => ⟨s.still 6 0 rfl rfl, ⟨s.still 6 1 rfl rfl, s.app 0 rfl ((s.lit (ty := yapi_Rule) 1 rfl [e.1] 1 (by simp [flat]) rfl).view 1 rfl) b2 fun s542 w529 s => ⟨s.still 6 0 rfl rfl, ⟨s.still 6 1 rfl rfl, (s.lit (ty := .int .i64) 3 rfl [] 0 rfl rfl).app 3 rfl (Sp.rf2_ s (j + 7) hj).2 b3 fun s543 w530 s => ⟨s.still 6 0 rfl rfl, s.app 3 rfl ((s.lit (ty := .int .i64) 2 rfl [len] 1 rfl rfl).view 2 rfl) b4 fun s544 w531 s => ⟨s.still 6 0 rfl rfl, s.st0 4 rfl rfl rfl fun w532 s => ⟨s.still 6 0 rfl rfl, s.ld0 (ty := yevergreenref12_Store) (x := (s542, s544)) 4 rfl rfl (h _ _ _ (s.pick [0, 3] 7 rfl (by decide)))⟩⟩⟩⟩⟩⟩⟩⟩⟩⟩⟩⟩⟩⟩⟩⟩⟩⟩⟩⟩⟩⟩⟩⟩,
s.allocK fun a546 w533 s => ⟨s.still 3 0 rfl rfl, ⟨s.still 3 1 rfl rfl, ⟨s.at_ 2 rfl, ⟨s.still 3 0 rfl rfl, ⟨s.allocK fun a547 w534 s => ⟨s.still 4 0 rfl rfl, ⟨s.still 4 1 rfl rfl, ⟨s.at_ 3 rfl, ⟨s.still 4 0 rfl rfl, ⟨(s.lit (ty := yapi_Rule) 0 rfl [] 0 rfl rfl).app 0 rfl (Sp.rf2_ s (j + 5) hj).1 b1 fun s548 w535 s => ⟨s.still 4 0 rfl rfl, ⟨s.still 4 1 rfl rfl, ⟨s.at_ 3 rfl, ⟨s.allocK fun a549 w536 s => ⟨s.still 5 0 rfl rfl, ⟨s.still 5 1 rfl rfl, ⟨s.app 1 rfl ((s.lit (ty := yapi_Rule) 0 rfl [e.1] 1 (by simp [flat]) rfl).view 0 rfl) b2 fun s550 w537 s => ⟨s.still 5 0 rfl rfl, ⟨s.still 5 1 rfl rfl, s.allocK fun a551 w538 s => ⟨s.still 6 0 rfl rfl, ⟨s.still 6 1 rfl rfl, (s.lit (ty := .int .i64) 0 rfl [] 0 rfl rfl).app 0 rfl (Sp.rf2_ s (j + 7) hj).2 b3 fun s552 w539 s => ⟨s.still 6 0 rfl rfl, s.app 0 rfl ((s.lit (ty := .int .i64) 3 rfl [len] 1 rfl rfl).view 3 rfl) b4 fun s553 w540 s => ⟨s.still 6 0 rfl rfl, s.st0 4 rfl rfl rfl fun w541 s => ⟨s.still 6 0 rfl rfl, s.ld0 (ty := yevergreenref12_Store) (x := (s550, s553)) 4 rfl rfl (h _ _ _ (s.pick [2, 0] 7 rfl (by decide)))⟩⟩⟩⟩⟩⟩⟩,
s.allocK fun a555 w542 s => ⟨s.still 6 0 rfl rfl, ⟨s.still 6 1 rfl rfl, s.app 2 rfl ((s.lit (ty := yapi_Rule) 1 rfl [e.1] 1 (by simp [flat]) rfl).view 1 rfl) b2 fun s556 w543 s => ⟨s.still 6 0 rfl rfl, ⟨s.still 6 1 rfl rfl, (s.lit (ty := .int .i64) 0 rfl [] 0 rfl rfl).app 0 rfl (Sp.rf2_ s (j + 7) hj).2 b3 fun s557 w544 s => ⟨s.still 6 0 rfl rfl, s.app 0 rfl ((s.lit (ty := .int .i64) 3 rfl [len] 1 rfl rfl).view 3 rfl) b4 fun s558 w545 s => ⟨s.still 6 0 rfl rfl, s.st0 4 rfl rfl rfl fun w546 s => ⟨s.still 6 0 rfl rfl, s.ld0 (ty := yevergreenref12_Store) (x := (s556, s558)) 4 rfl rfl (h _ _ _ (s.pick [2, 0] 7 rfl (by decide)))⟩⟩⟩⟩⟩⟩⟩⟩⟩⟩,
s.allocK fun a560 w547 s => ⟨s.still 5 0 rfl rfl, ⟨s.still 5 1 rfl rfl, ⟨s.at_ 4 rfl, s.allocK fun a561 w548 s => ⟨s.still 6 0 rfl rfl, ⟨s.still 6 1 rfl rfl, s.app 2 rfl ((s.lit (ty := yapi_Rule) 0 rfl [e.1] 1 (by simp [flat]) rfl).view 0 rfl) b2 fun s562 w549 s => ⟨s.still 6 0 rfl rfl, ⟨s.still 6 1 rfl rfl, (s.lit (ty := .int .i64) 1 rfl [] 0 rfl rfl).app 1 rfl (Sp.rf2_ s (j + 7) hj).2 b3 fun s563 w550 s => ⟨s.still 6 0 rfl rfl, s.app 1 rfl ((s.lit (ty := .int .i64) 3 rfl [len] 1 rfl rfl).view 3 rfl) b4 fun s564 w551 s => ⟨s.still 6 0 rfl rfl, s.st0 4 rfl rfl rfl fun w552 s => ⟨s.still 6 0 rfl rfl, s.ld0 (ty := yevergreenref12_Store) (x := (s562, s564)) 4 rfl rfl (h _ _ _ (s.pick [2, 1] 7 rfl (by decide)))⟩⟩⟩⟩⟩⟩⟩⟩⟩⟩⟩⟩⟩⟩,
⟨s.allocK fun a566 w553 s => ⟨s.still 5 0 rfl rfl, ⟨s.still 5 1 rfl rfl, ⟨s.still 5 0 rfl rfl, ⟨(s.lit (ty := yapi_Rule) 1 rfl [] 0 rfl rfl).app 1 rfl (Sp.rf2_ s (j + 6) hj).1 b1 fun s567 w554 s => ⟨s.still 5 0 rfl rfl, ⟨s.still 5 1 rfl rfl, ⟨s.app 1 rfl ((s.lit (ty := yapi_Rule) 0 rfl [e.1] 1 (by simp [flat]) rfl).view 0 rfl) b2 fun s568 w555 s => ⟨s.still 5 0 rfl rfl, ⟨s.still 5 1 rfl rfl, s.allocK fun a569 w556 s => ⟨s.still 6 0 rfl rfl, ⟨s.still 6 1 rfl rfl, (s.lit (ty := .int .i64) 0 rfl [] 0 rfl rfl).app 0 rfl (Sp.rf2_ s (j + 7) hj).2 b3 fun s570 w557 s => ⟨s.still 6 0 rfl rfl, s.app 0 rfl ((s.lit (ty := .int .i64) 3 rfl [len] 1 rfl rfl).view 3 rfl) b4 fun s571 w558 s => ⟨s.still 6 0 rfl rfl, s.st0 4 rfl rfl rfl fun w559 s => ⟨s.still 6 0 rfl rfl, s.ld0 (ty := yevergreenref12_Store) (x := (s568, s571)) 4 rfl rfl (h _ _ _ (s.pick [2, 0] 7 rfl (by decide)))⟩⟩⟩⟩⟩⟩⟩,
s.allocK fun a573 w560 s => ⟨s.still 6 0 rfl rfl, ⟨s.still 6 1 rfl rfl, s.app 2 rfl ((s.lit (ty := yapi_Rule) 1 rfl [e.1] 1 (by simp [flat]) rfl).view 1 rfl) b2 fun s574 w561 s => ⟨s.still 6 0 rfl rfl, ⟨s.still 6 1 rfl rfl, (s.lit (ty := .int .i64) 0 rfl [] 0 rfl rfl).app 0 rfl (Sp.rf2_ s (j + 7) hj).2 b3 fun s575 w562 s => ⟨s.still 6 0 rfl rfl, s.app 0 rfl ((s.lit (ty := .int .i64) 3 rfl [len] 1 rfl rfl).view 3 rfl) b4 fun s576 w563 s => ⟨s.still 6 0 rfl rfl, s.st0 4 rfl rfl rfl fun w564 s => ⟨s.still 6 0 rfl rfl, s.ld0 (ty := yevergreenref12_Store) (x := (s574, s576)) 4 rfl rfl (h _ _ _ (s.pick [2, 0] 7 rfl (by decide)))⟩⟩⟩⟩⟩⟩⟩⟩⟩⟩,
s.allocK fun a578 w565 s => ⟨s.still 6 0 rfl rfl, ⟨s.still 6 1 rfl rfl, ⟨s.still 6 0 rfl rfl, (s.lit (ty := yapi_Rule) 2 rfl [] 0 rfl rfl).app 2 rfl (Sp.rf2_ s (j + 7) hj).1 b1 fun s579 w566 s => ⟨s.still 6 0 rfl rfl, ⟨s.still 6 1 rfl rfl, s.app 2 rfl ((s.lit (ty := yapi_Rule) 1 rfl [e.1] 1 (by simp [flat]) rfl).view 1 rfl) b2 fun s580 w567 s => ⟨s.still 6 0 rfl rfl, ⟨s.still 6 1 rfl rfl, (s.lit (ty := .int .i64) 0 rfl [] 0 rfl rfl).app 0 rfl (Sp.rf2_ s (j + 7) hj).2 b3 fun s581 w568 s => ⟨s.still 6 0 rfl rfl, s.app 0 rfl ((s.lit (ty := .int .i64) 3 rfl [len] 1 rfl rfl).view 3 rfl) b4 fun s582 w569 s => ⟨s.still 6 0 rfl rfl, s.st0 4 rfl rfl rfl fun w570 s => ⟨s.still 6 0 rfl rfl, s.ld0 (ty := yevergreenref12_Store) (x := (s580, s582)) 4 rfl rfl (h _ _ _ (s.pick [2, 0] 7 rfl (by decide)))⟩⟩⟩⟩⟩⟩⟩⟩⟩⟩⟩⟩⟩⟩,
s.allocK fun a584 w571 s => ⟨s.still 5 0 rfl rfl, ⟨s.still 5 1 rfl rfl, ⟨s.at_ 4 rfl, ⟨s.still 5 0 rfl rfl, ⟨(s.lit (ty := yapi_Rule) 1 rfl [] 0 rfl rfl).app 1 rfl (Sp.rf2_ s (j + 6) hj).1 b1 fun s585 w572 s => ⟨s.still 5 0 rfl rfl, ⟨s.still 5 1 rfl rfl, ⟨s.at_ 4 rfl, s.allocK fun a586 w573 s => ⟨s.still 6 0 rfl rfl, ⟨s.still 6 1 rfl rfl, s.app 2 rfl ((s.lit (ty := yapi_Rule) 0 rfl [e.1] 1 (by simp [flat]) rfl).view 0 rfl) b2 fun s587 w574 s => ⟨s.still 6 0 rfl rfl, ⟨s.still 6 1 rfl rfl, (s.lit (ty := .int .i64) 1 rfl [] 0 rfl rfl).app 1 rfl (Sp.rf2_ s (j + 7) hj).2 b3 fun s588 w575 s => ⟨s.still 6 0 rfl rfl, s.app 1 rfl ((s.lit (ty := .int .i64) 3 rfl [len] 1 rfl rfl).view 3 rfl) b4 fun s589 w576 s => ⟨s.still 6 0 rfl rfl, s.st0 4 rfl rfl rfl fun w577 s => ⟨s.still 6 0 rfl rfl, s.ld0 (ty := yevergreenref12_Store) (x := (s587, s589)) 4 rfl rfl (h _ _ _ (s.pick [2, 1] 7 rfl (by decide)))⟩⟩⟩⟩⟩⟩⟩⟩⟩⟩,
s.allocK fun a591 w578 s => ⟨s.still 6 0 rfl rfl, ⟨s.still 6 1 rfl rfl, ⟨s.still 6 0 rfl rfl, (s.lit (ty := yapi_Rule) 2 rfl [] 0 rfl rfl).app 2 rfl (Sp.rf2_ s (j + 7) hj).1 b1 fun s592 w579 s => ⟨s.still 6 0 rfl rfl, ⟨s.still 6 1 rfl rfl, s.app 2 rfl ((s.lit (ty := yapi_Rule) 0 rfl [e.1] 1 (by simp [flat]) rfl).view 0 rfl) b2 fun s593 w580 s => ⟨s.still 6 0 rfl rfl, ⟨s.still 6 1 rfl rfl, (s.lit (ty := .int .i64) 1 rfl [] 0 rfl rfl).app 1 rfl (Sp.rf2_ s (j + 7) hj).2 b3 fun s594 w581 s => ⟨s.still 6 0 rfl rfl, s.app 1 rfl ((s.lit (ty := .int .i64) 3 rfl [len] 1 rfl rfl).view 3 rfl) b4 fun s595 w582 s => ⟨s.still 6 0 rfl rfl, s.st0 4 rfl rfl rfl fun w583 s => ⟨s.still 6 0 rfl rfl, s.ld0 (ty := yevergreenref12_Store) (x := (s593, s595)) 4 rfl rfl (h _ _ _ (s.pick [2, 1] 7 rfl (by decide)))⟩⟩⟩⟩⟩⟩⟩⟩⟩⟩⟩⟩⟩⟩⟩⟩⟩⟩⟩⟩⟩,
⟨s.allocK fun a597 w584 s => ⟨s.still 4 0 rfl rfl, ⟨s.still 4 1 rfl rfl, ⟨s.still 4 0 rfl rfl, ⟨s.allocK fun a598 w585 s => ⟨s.still 5 0 rfl rfl, ⟨s.still 5 1 rfl rfl, ⟨s.still 5 0 rfl rfl, ⟨(s.lit (ty := yapi_Rule) 0 rfl [] 0 rfl rfl).app 0 rfl (Sp.rf2_ s (j + 6) hj).1 b1 fun s599 w586 s => ⟨s.still 5 0 rfl rfl, ⟨s.still 5 1 rfl rfl, ⟨s.app 0 rfl ((s.lit (ty := yapi_Rule) 1 rfl [e.1] 1 (by simp [flat]) rfl).view 1 rfl) b2 fun s600 w587 s => ⟨s.still 5 0 rfl rfl, ⟨s.still 5 1 rfl rfl, s.allocK fun a601 w588 s => ⟨s.still 6 0 rfl rfl, ⟨s.still 6 1 rfl rfl, (s.lit (ty := .int .i64) 0 rfl [] 0 rfl rfl).app 0 rfl (Sp.rf2_ s (j + 7) hj).2 b3 fun s602 w589 s => ⟨s.still 6 0 rfl rfl, s.app 0 rfl ((s.lit (ty := .int .i64) 3 rfl [len] 1 rfl rfl).view 3 rfl) b4 fun s603 w590 s => ⟨s.still 6 0 rfl rfl, s.st0 4 rfl rfl rfl fun w591 s => ⟨s.still 6 0 rfl rfl, s.ld0 (ty := yevergreenref12_Store) (x := (s600, s603)) 4 rfl rfl (h _ _ _ (s.pick [1, 0] 7 rfl (by decide)))⟩⟩⟩⟩⟩⟩⟩,
s.allocK fun a605 w592 s => ⟨s.still 6 0 rfl rfl, ⟨s.still 6 1 rfl rfl, s.app 1 rfl ((s.lit (ty := yapi_Rule) 2 rfl [e.1] 1 (by simp [flat]) rfl).view 2 rfl) b2 fun s606 w593 s => ⟨s.still 6 0 rfl rfl, ⟨s.still 6 1 rfl rfl, (s.lit (ty := .int .i64) 0 rfl [] 0 rfl rfl).app 0 rfl (Sp.rf2_ s (j + 7) hj).2 b3 fun s607 w594 s => ⟨s.still 6 0 rfl rfl, s.app 0 rfl ((s.lit (ty := .int .i64) 3 rfl [len] 1 rfl rfl).view 3 rfl) b4 fun s608 w595 s => ⟨s.still 6 0 rfl rfl, s.st0 4 rfl rfl rfl fun w596 s => ⟨s.still 6 0 rfl rfl, s.ld0 (ty := yevergreenref12_Store) (x := (s606, s608)) 4 rfl rfl (h _ _ _ (s.pick [1, 0] 7 rfl (by decide)))⟩⟩⟩⟩⟩⟩⟩⟩⟩⟩,
s.allocK fun a610 w597 s => ⟨s.still 6 0 rfl rfl, ⟨s.still 6 1 rfl rfl, ⟨s.still 6 0 rfl rfl, (s.lit (ty := yapi_Rule) 1 rfl [] 0 rfl rfl).app 1 rfl (Sp.rf2_ s (j + 7) hj).1 b1 fun s611 w598 s => ⟨s.still 6 0 rfl rfl, ⟨s.still 6 1 rfl rfl, s.app 1 rfl ((s.lit (ty := yapi_Rule) 2 rfl [e.1] 1 (by simp [flat]) rfl).view 2 rfl) b2 fun s612 w599 s => ⟨s.still 6 0 rfl rfl, ⟨s.still 6 1 rfl rfl, (s.lit (ty := .int .i64) 0 rfl [] 0 rfl rfl).app 0 rfl (Sp.rf2_ s (j + 7) hj).2 b3 fun s613 w600 s => ⟨s.still 6 0 rfl rfl, s.app 0 rfl ((s.lit (ty := .int .i64) 3 rfl [len] 1 rfl rfl).view 3 rfl) b4 fun s614 w601 s => ⟨s.still 6 0 rfl rfl, s.st0 4 rfl rfl rfl fun w602 s => ⟨s.still 6 0 rfl rfl, s.ld0 (ty := yevergreenref12_Store) (x := (s612, s614)) 4 rfl rfl (h _ _ _ (s.pick [1, 0] 7 rfl (by decide)))⟩⟩⟩⟩⟩⟩⟩⟩⟩⟩⟩⟩⟩⟩,
s.allocK fun a616 w603 s => ⟨s.still 5 0 rfl rfl, ⟨s.still 5 1 rfl rfl, ⟨s.still 5 0 rfl rfl, s.allocK fun a617 w604 s => ⟨s.still 6 0 rfl rfl, ⟨s.still 6 1 rfl rfl, ⟨s.still 6 0 rfl rfl, (s.lit (ty := yapi_Rule) 0 rfl [] 0 rfl rfl).app 0 rfl (Sp.rf2_ s (j + 7) hj).1 b1 fun s618 w605 s => ⟨s.still 6 0 rfl rfl, ⟨s.still 6 1 rfl rfl, s.app 0 rfl ((s.lit (ty := yapi_Rule) 2 rfl [e.1] 1 (by simp [flat]) rfl).view 2 rfl) b2 fun s619 w606 s => ⟨s.still 6 0 rfl rfl, ⟨s.still 6 1 rfl rfl, (s.lit (ty := .int .i64) 1 rfl [] 0 rfl rfl).app 1 rfl (Sp.rf2_ s (j + 7) hj).2 b3 fun s620 w607 s => ⟨s.still 6 0 rfl rfl, s.app 1 rfl ((s.lit (ty := .int .i64) 3 rfl [len] 1 rfl rfl).view 3 rfl) b4 fun s621 w608 s => ⟨s.still 6 0 rfl rfl, s.st0 4 rfl rfl rfl fun w609 s => ⟨s.still 6 0 rfl rfl, s.ld0 (ty := yevergreenref12_Store) (x := (s619, s621)) 4 rfl rfl (h _ _ _ (s.pick [0, 1] 7 rfl (by decide)))⟩⟩⟩⟩⟩⟩⟩⟩⟩⟩⟩⟩⟩⟩⟩⟩⟩,
s.allocK fun a623 w610 s => ⟨s.still 4 0 rfl rfl, ⟨s.still 4 1 rfl rfl, ⟨s.at_ 3 rfl, ⟨s.still 4 0 rfl rfl, ⟨s.allocK fun a624 w611 s => ⟨s.still 5 0 rfl rfl, ⟨s.still 5 1 rfl rfl, ⟨s.at_ 4 rfl, ⟨s.still 5 0 rfl rfl, ⟨(s.lit (ty := yapi_Rule) 0 rfl [] 0 rfl rfl).app 0 rfl (Sp.rf2_ s (j + 6) hj).1 b1 fun s625 w612 s => ⟨s.still 5 0 rfl rfl, ⟨s.still 5 1 rfl rfl, ⟨s.at_ 4 rfl, s.allocK fun a626 w613 s => ⟨s.still 6 0 rfl rfl, ⟨s.still 6 1 rfl rfl, s.app 1 rfl ((s.lit (ty := yapi_Rule) 0 rfl [e.1] 1 (by simp [flat]) rfl).view 0 rfl) b2 fun s627 w614 s => ⟨s.still 6 0 rfl rfl, ⟨s.still 6 1 rfl rfl, (s.lit (ty := .int .i64) 2 rfl [] 0 rfl rfl).app 2 rfl (Sp.rf2_ s (j + 7) hj).2 b3 fun s628 w615 s => ⟨s.still 6 0 rfl rfl, s.app 2 rfl ((s.lit (ty := .int .i64) 3 rfl [len] 1 rfl rfl).view 3 rfl) b4 fun s629 w616 s => ⟨s.still 6 0 rfl rfl, s.st0 4 rfl rfl rfl fun w617 s => ⟨s.still 6 0 rfl rfl, s.ld0 (ty := yevergreenref12_Store) (x := (s627, s629)) 4 rfl rfl (h _ _ _ (s.pick [1, 2] 7 rfl (by decide)))⟩⟩⟩⟩⟩⟩⟩⟩⟩⟩,
s.allocK fun a631 w618 s => ⟨s.still 6 0 rfl rfl, ⟨s.still 6 1 rfl rfl, ⟨s.still 6 0 rfl rfl, (s.lit (ty := yapi_Rule) 1 rfl [] 0 rfl rfl).app 1 rfl (Sp.rf2_ s (j + 7) hj).1 b1 fun s632 w619 s => ⟨s.still 6 0 rfl rfl, ⟨s.still 6 1 rfl rfl, s.app 1 rfl ((s.lit (ty := yapi_Rule) 0 rfl [e.1] 1 (by simp [flat]) rfl).view 0 rfl) b2 fun s633 w620 s => ⟨s.still 6 0 rfl rfl, ⟨s.still 6 1 rfl rfl, (s.lit (ty := .int .i64) 2 rfl [] 0 rfl rfl).app 2 rfl (Sp.rf2_ s (j + 7) hj).2 b3 fun s634 w621 s => ⟨s.still 6 0 rfl rfl, s.app 2 rfl ((s.lit (ty := .int .i64) 3 rfl [len] 1 rfl rfl).view 3 rfl) b4 fun s635 w622 s => ⟨s.still 6 0 rfl rfl, s.st0 4 rfl rfl rfl fun w623 s => ⟨s.still 6 0 rfl rfl, s.ld0 (ty := yevergreenref12_Store) (x := (s633, s635)) 4 rfl rfl (h _ _ _ (s.pick [1, 2] 7 rfl (by decide)))⟩⟩⟩⟩⟩⟩⟩⟩⟩⟩⟩⟩⟩⟩⟩,
s.allocK fun a637 w624 s => ⟨s.still 5 0 rfl rfl, ⟨s.still 5 1 rfl rfl, ⟨s.still 5 0 rfl rfl, s.allocK fun a638 w625 s => ⟨s.still 6 0 rfl rfl, ⟨s.still 6 1 rfl rfl, ⟨s.still 6 0 rfl rfl, (s.lit (ty := yapi_Rule) 0 rfl [] 0 rfl rfl).app 0 rfl (Sp.rf2_ s (j + 7) hj).1 b1 fun s639 w626 s => ⟨s.still 6 0 rfl rfl, ⟨s.still 6 1 rfl rfl, s.app 0 rfl ((s.lit (ty := yapi_Rule) 1 rfl [e.1] 1 (by simp [flat]) rfl).view 1 rfl) b2 fun s640 w627 s => ⟨s.still 6 0 rfl rfl, ⟨s.still 6 1 rfl rfl, (s.lit (ty := .int .i64) 2 rfl [] 0 rfl rfl).app 2 rfl (Sp.rf2_ s (j + 7) hj).2 b3 fun s641 w628 s => ⟨s.still 6 0 rfl rfl, s.app 2 rfl ((s.lit (ty := .int .i64) 3 rfl [len] 1 rfl rfl).view 3 rfl) b4 fun s642 w629 s => ⟨s.still 6 0 rfl rfl, s.st0 4 rfl rfl rfl fun w630 s => ⟨s.still 6 0 rfl rfl, s.ld0 (ty := yevergreenref12_Store) (x := (s640, s642)) 4 rfl rfl (h _ _ _ (s.pick [0, 2] 7 rfl (by decide)))⟩⟩⟩⟩⟩⟩⟩⟩⟩⟩⟩⟩⟩⟩⟩⟩⟩⟩⟩⟩⟩⟩⟩⟩⟩⟩⟩
theorem ref12_Add_spec {e : ET} {len : Int} (hlen : len = e.2.1.1) (s : Sp w0 Ω w) (j : Nat) (hj : Ω[j]? = some (rf2 m T)) (hl : T.length < 1048576) (hm : (T.length : Int) < most) {K : yevergreenref12_Store.T × Int → World → Prop}
    (h : ∀ m' w', Sp w0 (rf2 m' (pAdd T most e).1 :: Ω) w' → K (m', (pAdd T most e).2.1) w') : C_ref12_Add m e.1 len K w := by
  cases hf : lkR T e.1 with
  | none =>
    obtain ⟨_, q2⟩ := pAdd_new (most := most) hf (by omega)
    rw [q2] at h
    exact ref12_Add_new hlen s j hj hl hf h
  | some i =>
    obtain ⟨_, q2, _⟩ := pAdd_some (most := most) hf
    rw [q2] at h
    apply S_ref12_Add
    unfold F_ref12_Add
    refine s.allocK fun a1 w1 s => s.allocK fun a2 w2 s => s.allocK fun a3 w3 s => ?_
    have hlr := (Sp.rf2_ s (j + 3) hj).1.len
    rw [rulesOf_len] at hlr
    refine loop_by (fun x => x.1) T.length (fun n _ w => (∀ i, i < n → ∀ e', T[i]? = some e' → e'.1 ≠ e.1) ∧ Sp w0 (cel a3 [.slice none 0 0, .slice none 0 0] :: cel a2 (cells yapi_Rule e.1) :: cel a1 (cells yevergreenref12_Store m) :: Ω) w) rfl ⟨fun i hi => by omega, s⟩ ?_
    rintro n ⟨x, _⟩ w4 hnn hx ⟨hno, s⟩ _
    dsimp only at hx ⊢
    subst hx
    refine s.lds (x := m.1) 2 0 rfl rfl (gd_dec (fun hlt => s.drawK fun w5 s => s.lds (x := m.1) 2 0 rfl rfl ?_) (fun hge => ?_))
    · have hn' : n < T.length := by omega
      have he : T[n]? = some T[n] := List.getElem?_eq_getElem hn'
      refine (Sp.rf2_ s (j + 3) hj).1.idx rfl (x := T[n].1) (by rw [rulesOf, List.getElem?_map, he]; rfl) rfl fun q hq => ⟨_, hq, s.ld0 1 rfl rfl (rule_eql (gd_dec (fun e1 => ?_) (fun e1 => ?_)))⟩
      · refine s.ld0 (ty := yevergreenref12_Store) (x := m) 2 rfl rfl (arith_i64 (by omega) (by omega) (s.st0 0 rfl rfl rfl fun w6 s => s.ld0 (ty := yevergreenref12_Store) (x := m) 0 rfl rfl ?_))
        have := h m _ ((s.drop 3).dup j hj rfl)
        rw [lkR_at hno he e1] at hf
        cases hf
        exact this
      · refine arith_i64 (by omega) (by omega) (loop_nx hn' ⟨fun i hi e' he' => ?_, s⟩)
        by_cases c : i < n
        · exact hno i c e' he'
        · have : i = n := by omega
          subst this
          rw [he] at he'
          cases he'
          exact e1
    · exfalso
      have : lkR T e.1 = none := lkR_none fun e' he' => by
        obtain ⟨k, hk⟩ := List.getElem?_of_mem he'
        exact hno k (by have := (List.getElem?_eq_some_iff.1 hk).1; omega) e' hk
      rw [this] at hf; cases hf

end Go.Proofs.YtnmgjpcooncjlaaGreat

/- The specification's stores (evergreenref12): Pick, One, Build; the layer's Build. -/
set_option linter.unusedVariables false
set_option linter.unusedSimpArgs false
namespace Go.Proofs.YtnmgjpcooncjlaaGreat
open Go.Den

variable {w0 w : World} {Ω : List Ob} {most : Int} {T : List ET} {res : List Int} {i j : Nat} {m : yevergreenref12_Store.T} {p : Addr}

def pickN (n many : Int) : Int := if Int.tmod n many < 0 then Int.tmod n many + many else Int.tmod n many
theorem pickN_bound {n many : Int} (hm : 1 ≤ many) : 0 ≤ pickN n many ∧ pickN n many < many := by
  have h1 := Int.tmod_lt_of_pos n (show 0 < many by omega)
  have h2 := Int.lt_tmod_of_pos n (show 0 < many by omega)
  unfold pickN
  split <;> omega
theorem ref12_Pick_eq {n many : Int} (hm : 1 ≤ many) (hb : many ≤ 4611686018427387904) {K : Int → World → Prop} (h : K (pickN n many) w) : C_ref12_Pick n many K w := by
  apply S_ref12_Pick
  unfold F_ref12_Pick
  have h1 := Int.tmod_lt_of_pos n (show 0 < many by omega)
  have h2 := Int.lt_tmod_of_pos n (show 0 < many by omega)
  unfold pickN at h
  refine ⟨by omega, letZ_mk (JoinP.inl ?_)⟩
  refine gd_dec (fun c => arith_i64 (by omega) (by omega) fun _ => ?_) (fun c => fun _ => ?_)
  · rwa [if_pos c] at h
  · rwa [if_neg c] at h
def rsAt (res : List Int) (n : Int) : Int := res.getD (pickN n res.length).toNat 0
theorem rsAt_get (h : 1 ≤ res.length) (n : Int) : ∃ k : Nat, pickN n res.length = k ∧ res[k]? = some (rsAt res n) ∧ rsAt res n ∈ res := by
  have hb := pickN_bound (n := n) (many := res.length) (by omega)
  have hk : (pickN n res.length).toNat < res.length := by omega
  have e : rsAt res n = res[(pickN n res.length).toNat] := by unfold rsAt; rw [List.getD_eq_getElem?_getD, List.getElem?_eq_getElem hk]; rfl
  refine ⟨(pickN n res.length).toNat, by omega, ?_, ?_⟩
  · rw [e]; exact List.getElem?_eq_getElem hk
  · rw [e]; exact List.getElem_mem hk

abbrev MakeT := Int × Int × Int × Int × Int
def mKind (o : MakeT) : Int := o.1
def mLet (o : MakeT) : Int := o.2.1
def mLeft (o : MakeT) : Int := o.2.2.1
def mRight (o : MakeT) : Int := o.2.2.2.1
def mTimes (o : MakeT) : Int := o.2.2.2.2
structure MakeOK (o : MakeT) : Prop where
  b : 0 ≤ mLet o ∧ mLet o < 256
  k : -9223372036854775808 ≤ mTimes o ∧ mTimes o ≤ 9223372036854775807
theorem makeOK_of {o : MakeT} (h : wfT yevergreenref12_Make o) : MakeOK o := by
  obtain ⟨_, h2, _, _, h5⟩ := h
  exact ⟨u8_range h2, i64_range h5⟩
/-- what one Make makes -/
def mk1 (most : Int) (T : List ET) (res : List Int) (o : MakeT) : List ET × Int :=
  if pickN (mKind o) 4 = 0 then ((pLetter T most (mLet o)).1, (pLetter T most (mLet o)).2.1)
  else if pickN (mKind o) 4 = 3 then ((pPower T most (rsAt res (mLeft o)) (if mTimes o < 0 then 0 else mTimes o)).1, (pPower T most (rsAt res (mLeft o)) (if mTimes o < 0 then 0 else mTimes o)).2.1)
  else ((pPair T most (rsAt res (mLeft o)) (rsAt res (mRight o))).1, (pPair T most (rsAt res (mLeft o)) (rsAt res (mRight o))).2.1)
/-- what a list of Makes makes, from a store and results on -/
def bldF (most : Int) (T : List ET) (res : List Int) : List MakeT → List ET × List Int
  | [] => (T, res)
  | o :: ops => bldF most (mk1 most T res o).1 (res ++ [(mk1 most T res o).2]) ops
def bld (most : Int) (ops : List MakeT) : List ET × List Int := bldF most [] [0] ops
theorem bldF_append (ops ops' : List MakeT) : ∀ (T : List ET) (res : List Int), bldF most T res (ops ++ ops') = bldF most (bldF most T res ops).1 (bldF most T res ops).2 ops' := by
  induction ops with
  | nil => intro T res; rfl
  | cons o ops ih => intro T res; exact ih _ _
theorem bld_snoc (ops : List MakeT) (o : MakeT) : bld most (ops ++ [o]) = ((mk1 most (bld most ops).1 (bld most ops).2 o).1, (bld most ops).2 ++ [(mk1 most (bld most ops).1 (bld most ops).2 o).2]) := by
  unfold bld
  rw [bldF_append]; rfl
theorem bldF_pre (ops : List MakeT) : ∀ (T : List ET) (res : List Int), res <+: (bldF most T res ops).2 := by
  induction ops with
  | nil => intro T res; exact List.prefix_refl _
  | cons o ops ih => intro T res; exact (List.prefix_append _ _).trans (ih _ _)
theorem bld_pre (ops ops' : List MakeT) : (bld most ops).2 <+: (bld most (ops ++ ops')).2 := by
  unfold bld
  rw [bldF_append]
  exact bldF_pre _ _ _

def Facts (T : List ET) (x : List ET × Int) : Prop := T <+: x.1 ∧ x.1.length ≤ T.length + 1 ∧ 0 ≤ x.2 ∧ x.2 ≤ x.1.length
theorem Facts.same {x : Int} (h0 : 0 ≤ x) (h1 : x ≤ T.length) : Facts T (T, x) := ⟨List.prefix_refl _, Nat.le_succ _, h0, h1⟩
theorem pAdd_facts (T : List ET) (most : Int) (e : ET) : Facts T ((pAdd T most e).1, (pAdd T most e).2.1) := by
  cases hf : lkR T e.1 with
  | some i =>
    have := lkR_pos hf
    rw [(pAdd_some (most := most) hf).2.1]
    exact Facts.same (x := i) (by omega) this.2
  | none =>
    by_cases hm : most ≤ T.length
    · rw [(pAdd_full (most := most) hf hm).2]; exact Facts.same (x := 0) (Int.le_refl _) (by omega)
    · rw [(pAdd_new (most := most) hf hm).2]
      exact ⟨List.prefix_append _ _, by simp, by show (0 : Int) ≤ (T.length : Int) + 1; omega, by simp⟩
theorem pPower_facts {x k : Int} (hx : 0 ≤ x ∧ x ≤ T.length) : Facts T ((pPower T most x k).1, (pPower T most x k).2.1) := by
  unfold pPower
  have h0 : (0 : Int) ≤ T.length := by omega
  split
  · exact .same (Int.le_refl _) h0
  split
  · exact .same (Int.le_refl _) h0
  split
  · exact .same hx.1 hx.2
  split
  · exact .same (Int.le_refl _) h0
  · exact pAdd_facts _ _ _
theorem pPair_facts {x y : Int} (hx : 0 ≤ x ∧ x ≤ T.length) (hy : 0 ≤ y ∧ y ≤ T.length) : Facts T ((pPair T most x y).1, (pPair T most x y).2.1) := by
  unfold pPair
  have h0 : (0 : Int) ≤ T.length := by omega
  split
  · exact .same (Int.le_refl _) h0
  split
  · exact .same hy.1 hy.2
  split
  · exact .same hx.1 hx.2
  split
  · exact .same (Int.le_refl _) h0
  · exact pAdd_facts _ _ _
def KnownAll (T : List ET) (res : List Int) : Prop := ∀ y ∈ res, 0 ≤ y ∧ y ≤ T.length
theorem mk1_facts (h1 : 1 ≤ res.length) (hk : KnownAll T res) (o : MakeT) : Facts T (mk1 most T res o) := by
  obtain ⟨_, _, _, hl⟩ := rsAt_get h1 (mLeft o)
  obtain ⟨_, _, _, hr⟩ := rsAt_get h1 (mRight o)
  unfold mk1
  by_cases c0 : pickN (mKind o) 4 = 0
  · rw [if_pos c0]; exact pAdd_facts _ _ _
  rw [if_neg c0]
  by_cases c3 : pickN (mKind o) 4 = 3
  · rw [if_pos c3]; exact pPower_facts (hk _ hl)
  · rw [if_neg c3]; exact pPair_facts (hk _ hl) (hk _ hr)
theorem mk1_grow (g : Grow T) (hm : (T.length : Int) ≤ most) {o : MakeT} (ho : MakeOK o) : Grow (mk1 most T res o).1 ∧ ((mk1 most T res o).1.length : Int) ≤ most := by
  unfold mk1
  by_cases c0 : pickN (mKind o) 4 = 0
  · rw [if_pos c0]; exact pLetter_grow g hm ho.b
  rw [if_neg c0]
  by_cases c3 : pickN (mKind o) 4 = 3
  · rw [if_pos c3]; exact pPower_grow g hm
  · rw [if_neg c3]; exact pPair_grow g hm
/-- what holds of what was made -/
structure BldOK (most : Int) (T : List ET) (res : List Int) (n : Nat) : Prop where
  grow : Grow T
  cap : (T.length : Int) ≤ most
  len : T.length ≤ n
  cnt : res.length = n + 1
  known : KnownAll T res
theorem BldOK.step {n : Nat} (h : BldOK most T res n) {o : MakeT} (ho : MakeOK o) : BldOK most (mk1 most T res o).1 (res ++ [(mk1 most T res o).2]) (n + 1) := by
  have h1 := h.cnt
  obtain ⟨f1, f2, f3⟩ := mk1_facts (most := most) (by omega) h.known o
  have g := mk1_grow (res := res) h.grow h.cap ho
  have hl := h.len
  refine ⟨g.1, g.2, by omega, by simp; omega, fun y hy => ?_⟩
  rcases List.mem_append.1 hy with hy | hy
  · have := h.known y hy
    have := f1.length_le
    omega
  · rw [List.mem_singleton] at hy
    subst hy
    exact f3
theorem BldOK.init (hm : 0 ≤ most) : BldOK most [] [0] 0 := ⟨.nil, by simpa using hm, Nat.le_refl _, rfl, fun y hy => by
  rw [List.mem_singleton] at hy
  subst hy
  exact ⟨Int.le_refl _, Int.le_refl _⟩⟩
theorem bldF_ok : ∀ (ops : List MakeT) (T : List ET) (res : List Int) (n : Nat), BldOK most T res n → (∀ o ∈ ops, MakeOK o) → BldOK most (bldF most T res ops).1 (bldF most T res ops).2 (n + ops.length)
  | [], _, _, _, h, _ => h
  | o :: ops, T, res, n, h, ho => by
    have := bldF_ok ops _ _ _ (h.step (ho o (by simp))) fun o' ho' => ho o' (by simp [ho'])
    rw [List.length_cons, show n + (ops.length + 1) = n + 1 + ops.length by omega]
    exact this
theorem bld_ok (hm : 0 ≤ most) {ops : List MakeT} (ho : ∀ o ∈ ops, MakeOK o) : BldOK most (bld most ops).1 (bld most ops).2 ops.length := by
  have := bldF_ok ops _ _ _ (BldOK.init hm) ho
  rwa [Nat.zero_add] at this

theorem ref12_One_spec {o : MakeT} {rs : Sl} (ho : MakeOK o) (g : Grow T) (h1 : 1 ≤ res.length) (hN : res.length ≤ 1000000) (hk : KnownAll T res) (hl : T.length < 1048576) (hm : (T.length : Int) < most) (s : Sp w0 Ω w) (i : Nat) (hi : Ω[i]? = some (own (.int .i64) rs res)) (j : Nat) (hj : Ω[j]? = some (rf2 m T)) {K : yevergreenref12_Store.T × Int → World → Prop}
    (h : ∀ m' w', Sp w0 (rf2 m' (mk1 most T res o).1 :: Ω) w' → K (m', (mk1 most T res o).2) w') : C_ref12_One m o rs K w := by
  apply S_ref12_One
  unfold F_ref12_One
  have hlen := (s.view i hi).len
  obtain ⟨k1, e1, hg1, hm1⟩ := rsAt_get h1 (mLeft o)
  obtain ⟨k2, e2, hg2, hm2⟩ := rsAt_get h1 (mRight o)
  have bl := hk _ hm1
  have br := hk _ hm2
  have hkl : known T (rsAt res (mLeft o)) = true := decide_eq_true bl
  have hkr : known T (rsAt res (mRight o)) = true := decide_eq_true br
  have hp1 : mk1 most T res o = if pickN (mKind o) 4 = 0 then ((pLetter T most (mLet o)).1, (pLetter T most (mLet o)).2.1)
    else if pickN (mKind o) 4 = 3 then ((pPower T most (rsAt res (mLeft o)) (if mTimes o < 0 then 0 else mTimes o)).1, (pPower T most (rsAt res (mLeft o)) (if mTimes o < 0 then 0 else mTimes o)).2.1)
    else ((pPair T most (rsAt res (mLeft o)) (rsAt res (mRight o))).1, (pPair T most (rsAt res (mLeft o)) (rsAt res (mRight o))).2.1) := rfl
  refine s.allocK fun a1 w1 s => s.allocK fun a2 w2 s => s.allocK fun a3 w3 s => s.ldi (x := mLeft o) 1 2 rfl rfl (ref12_Pick_eq (by omega) (by omega) ?_)
  rw [show ((rs.len : Nat) : Int) = (res.length : Int) by omega]
  refine (s.view (i + 3) hi).idx e1 hg1 rfl fun q1 hq1 => ⟨_, hq1, s.ldi (x := mRight o) 1 3 rfl rfl (ref12_Pick_eq (by omega) (by omega) ?_)⟩
  refine (s.view (i + 3) hi).idx e2 hg2 rfl fun q2 hq2 => ⟨_, hq2, s.ldi (x := mKind o) 1 0 rfl rfl (ref12_Pick_eq (by decide) (by decide) ?_)⟩
  generalize rsAt res (mLeft o) = l at *
  generalize rsAt res (mRight o) = r at *
  have same : ∀ (x : Int), mk1 most T res o = (T, x) → ∀ w', Sp w0 (cel a3 (cells yevergreenref12_Store m) :: cel a2 (cells yevergreenref12_Make o) :: cel a1 (cells yevergreenref12_Store m) :: Ω) w' → K (m, x) w' := fun x e w' s => by
    rw [e] at h
    exact h _ _ ((s.drop 3).dup j hj rfl)
  refine gd_eq (fun c0 => ?_) (fun c0 => gd_eq (fun c3 => ?_) (fun c3 => ?_))
  · rw [if_pos c0] at hp1
    rw [hp1] at h
    refine s.ld0 (ty := yevergreenref12_Store) (x := m) 2 rfl rfl (s.ldi (x := mLet o) 1 1 rfl rfl (ref12_Add_spec (e := mkLetter (mLet o)) (wLetter_len _).symm s (j + 3) hj hl hm fun m' w4 s => s.st0 1 rfl rfl rfl fun w5 s => s.ld0 (ty := yevergreenref12_Store) (x := m') 1 rfl rfl ?_))
    exact h _ _ (s.pick [0] 4 rfl (by decide))
  · rw [if_neg c0, if_pos c3] at hp1
    obtain ⟨wx, dx0, dx1, px⟩ := g.at_ bl.1 bl.2
    have wxl := wx.len
    have hb : 0 ≤ 1152921504606846976 / (eAt T l).2.1.1 ∧ 1152921504606846976 / (eAt T l).2.1.1 ≤ 1152921504606846976 := ⟨Int.ediv_nonneg (by decide) (by omega), Int.ediv_le_self _ (by decide)⟩
    refine s.ld0 (ty := yevergreenref12_Store) (x := m) 2 rfl rfl (ref12_Length_spec s (j + 3) hj hkl (by omega) fun w4 s => ?_)
    have hk0 : known T l = false ∨ (if mTimes o < 0 then 0 else mTimes o) < 0 ↔ False := by
      rw [hkl]
      constructor
      · rintro (h | h)
        · cases h
        · split at h <;> omega
      · intro h; exact h.elim
    refine ⟨fun y v => y.1 = decide (l = 0 ∨ mTimes o ≤ 0 ∨ 1152921504606846976 < (eAt T l).2.1.1 * mTimes o) ∧ Sp w0 (cel a3 [.slice none 0 0, .slice none 0 0] :: cel a2 (cells yevergreenref12_Make o) :: cel a1 (cells yevergreenref12_Store m) :: Ω) v, ?_, ?_⟩
    · refine s.drawK fun w5 s => gd_eq (fun q1 => ⟨(decide_eq_true (Or.inl q1)).symm, s⟩) (fun q1 => s.ldi (x := mTimes o) 1 4 rfl rfl (gd_dec (fun q2 => ⟨(decide_eq_true (Or.inr (Or.inl q2))).symm, s⟩) (fun q2 => s.ldi (x := mTimes o) 1 4 rfl rfl ?_)))
      have hpos := px (by omega)
      have hd : Int.tdiv 1152921504606846976 (eAt T l).2.1.1 = 1152921504606846976 / (eAt T l).2.1.1 := Int.tdiv_eq_ediv_of_nonneg (by decide)
      have hiff : 1152921504606846976 / (eAt T l).2.1.1 < mTimes o ↔ 1152921504606846976 < (eAt T l).2.1.1 * mTimes o := by
        rw [Int.mul_comm]; exact Int.ediv_lt_iff_lt_mul (by omega)
      refine ⟨by omega, ?_⟩
      rw [hd]
      refine arith_i64 (by omega) (by omega) ⟨decide_eq_decide.2 ?_, s⟩
      rw [hiff]
      constructor
      · intro h; exact Or.inr (Or.inr h)
      · rintro (h | h | h)
        · exact absurd h q1
        · exact absurd h q2
        · exact h
    rintro ⟨y, _⟩ w5 ⟨hy, s⟩ _
    dsimp only at hy ⊢
    subst hy
    refine gd_dec (fun q => ?_) (fun q => ?_)
    · have hp : mk1 most T res o = (T, 0) := by
        rw [hp1]
        unfold pPower
        rw [if_neg (fun h => hk0.1 h)]
        by_cases q0 : (if mTimes o < 0 then (0 : Int) else mTimes o) = 0 ∨ l = 0
        · rw [if_pos q0]
        · have hl0 : l ≠ 0 := fun h => q0 (Or.inr h)
          have ht : 0 < mTimes o := by
            by_cases c : mTimes o < 0
            · exact absurd (Or.inl (if_pos c)) q0
            · rw [if_neg c] at q0
              have : mTimes o ≠ 0 := fun h => q0 (Or.inl h)
              omega
          have hgt : 1152921504606846976 < (eAt T l).2.1.1 * mTimes o := by
            rcases q with q | q | q
            · exact absurd q hl0
            · omega
            · exact q
          rw [if_neg q0, if_neg (show ¬ mTimes o < 0 by omega), if_neg (fun h => by rw [h, Int.mul_one] at hgt; omega), if_pos hgt]
      exact s.ld0 (ty := yevergreenref12_Store) (x := m) 2 rfl rfl (s.st0 0 rfl rfl rfl fun w6 s => s.ld0 (ty := yevergreenref12_Store) (x := m) 0 rfl rfl (same _ hp _ s))
    · have hl0 : l ≠ 0 := fun h => q (Or.inl h)
      have ht : 0 < mTimes o := by
        rcases Int.lt_or_le 0 (mTimes o) with h | h
        · exact h
        · exact absurd (Or.inr (Or.inl h)) q
      have hle : ¬ 1152921504606846976 < (eAt T l).2.1.1 * mTimes o := fun h => q (Or.inr (Or.inr h))
      have hpos := px (by omega)
      have hnn : 0 ≤ (eAt T l).2.1.1 * mTimes o := Int.mul_nonneg (by omega) (by omega)
      rw [if_neg (show ¬ mTimes o < 0 by omega)] at hp1 hk0
      refine s.ldi (x := mTimes o) 1 4 rfl rfl (gd_eq (fun q1 => ?_) (fun q1 => ?_))
      · have hp : mk1 most T res o = (T, l) := by
          rw [hp1]
          unfold pPower
          rw [if_neg (fun h => hk0.1 h), if_neg (by omega), if_pos q1]
        exact s.ld0 (ty := yevergreenref12_Store) (x := m) 2 rfl rfl (s.st0 0 rfl rfl rfl fun w6 s => s.ld0 (ty := yevergreenref12_Store) (x := m) 0 rfl rfl (same _ hp _ s))
      · have hp : mk1 most T res o = ((pAdd T most (mkPower T l (mTimes o))).1, (pAdd T most (mkPower T l (mTimes o))).2.1) := by
          rw [hp1]
          unfold pPower
          rw [if_neg (fun h => hk0.1 h), if_neg (by omega), if_neg q1, if_neg hle]
        rw [hp] at h
        refine s.ld0 (ty := yevergreenref12_Store) (x := m) 2 rfl rfl (s.ldi (x := mTimes o) 1 4 rfl rfl (s.ldi (x := mTimes o) 1 4 rfl rfl (arith_i64 (by omega) (by omega) ?_)))
        refine ref12_Add_spec (e := mkPower T l (mTimes o)) (wRep_len _ _).symm s (j + 3) hj hl hm fun m' w6 s => s.st0 1 rfl rfl rfl fun w7 s => s.ld0 (ty := yevergreenref12_Store) (x := m') 1 rfl rfl ?_
        exact h _ _ (s.pick [0] 4 rfl (by decide))
  · rw [if_neg c0, if_neg c3] at hp1
    have hu : ¬ (known T l = false ∨ known T r = false) := by rw [hkl, hkr]; simp
    refine gd_eq (fun q1 => ?_) (fun q1 => gd_eq (fun q2 => ?_) (fun q2 => ?_))
    · have hp : mk1 most T res o = (T, r) := by rw [hp1]; unfold pPair; rw [if_neg hu, if_pos q1]
      exact s.ld0 (ty := yevergreenref12_Store) (x := m) 2 rfl rfl (s.st0 0 rfl rfl rfl fun w6 s => s.ld0 (ty := yevergreenref12_Store) (x := m) 0 rfl rfl (same _ hp _ s))
    · have hp : mk1 most T res o = (T, l) := by rw [hp1]; unfold pPair; rw [if_neg hu, if_neg q1, if_pos q2]
      exact s.ld0 (ty := yevergreenref12_Store) (x := m) 2 rfl rfl (s.st0 0 rfl rfl rfl fun w6 s => s.ld0 (ty := yevergreenref12_Store) (x := m) 0 rfl rfl (same _ hp _ s))
    have wll := (g.at_ bl.1 bl.2).1.len
    have wrl := (g.at_ br.1 br.2).1.len
    refine s.drawK fun w4 s => s.ld0 (ty := yevergreenref12_Store) (x := m) 2 rfl rfl (s.ld0 (ty := yevergreenref12_Store) (x := m) 2 rfl rfl ?_)
    refine ref12_Length_spec s (j + 3) hj hkl (by omega) fun w5 s => ⟨s.at_ 2 rfl, ref12_Length_spec s (j + 3) hj hkr (by omega) fun w6 s => arith_i64 (by omega) (by omega) (gd_dec (fun q3 => ?_) (fun q3 => ?_))⟩
    · have hp : mk1 most T res o = (T, 0) := by rw [hp1]; unfold pPair; rw [if_neg hu, if_neg q1, if_neg q2, if_pos (by omega)]
      exact s.ld0 (ty := yevergreenref12_Store) (x := m) 2 rfl rfl (s.st0 0 rfl rfl rfl fun w6 s => s.ld0 (ty := yevergreenref12_Store) (x := m) 0 rfl rfl (same _ hp _ s))
    · have hp : mk1 most T res o = ((pAdd T most (mkPair T l r)).1, (pAdd T most (mkPair T l r)).2.1) := by rw [hp1]; unfold pPair; rw [if_neg hu, if_neg q1, if_neg q2, if_neg (by omega)]
      rw [hp] at h
      refine s.drawK fun w7 s => s.ld0 (ty := yevergreenref12_Store) (x := m) 2 rfl rfl (s.ld0 (ty := yevergreenref12_Store) (x := m) 2 rfl rfl (s.ld0 (ty := yevergreenref12_Store) (x := m) 2 rfl rfl ?_))
      refine ref12_Length_spec s (j + 3) hj hkl (by omega) fun w5 s => ⟨s.at_ 2 rfl, s.at_ 2 rfl, ref12_Length_spec s (j + 3) hj hkr (by omega) fun w6 s => ⟨s.at_ 2 rfl, arith_i64 (by omega) (by omega) ?_⟩⟩
      refine ref12_Add_spec (e := mkPair T l r) rfl s (j + 3) hj hl hm fun m' w6 s => s.st0 1 rfl rfl rfl fun w7 s => s.ld0 (ty := yevergreenref12_Store) (x := m') 1 rfl rfl ?_
      exact h _ _ (s.pick [0] 4 rfl (by decide))

end Go.Proofs.YtnmgjpcooncjlaaGreat

/- Build, of the specification (evergreenref12) and of the layer (evergreenlaw12): the walks. -/
set_option linter.unusedVariables false
set_option linter.unusedSimpArgs false
namespace Go.Proofs.YtnmgjpcooncjlaaGreat
open Go.Den

variable {w0 w : World} {Ω : List Ob} {most : Int} {T : List ET} {res : List Int} {i j : Nat} {m : yevergreenref12_Store.T} {p : Addr}

theorem take_snoc {α : Type} {l : List α} {n : Nat} (h : n < l.length) : l.take (n + 1) = l.take n ++ [l[n]] := by
  rw [List.take_add_one, List.getElem?_eq_getElem h]; rfl
theorem bld_take {ops : List MakeT} {n : Nat} (h : n < ops.length) : bld most (ops.take (n + 1)) = ((mk1 most (bld most (ops.take n)).1 (bld most (ops.take n)).2 ops[n]).1, (bld most (ops.take n)).2 ++ [(mk1 most (bld most (ops.take n)).1 (bld most (ops.take n)).2 ops[n]).2]) := by
  rw [take_snoc h, bld_snoc]
theorem bld_take_ok (hm : 0 ≤ most) {ops : List MakeT} (ho : ∀ o ∈ ops, MakeOK o) {n : Nat} (hn : n ≤ ops.length) : BldOK most (bld most (ops.take n)).1 (bld most (ops.take n)).2 n := by
  have := bld_ok (most := most) hm (ops := ops.take n) fun o h => ho o (List.mem_of_mem_take h)
  rwa [List.length_take, Nat.min_eq_left hn] at this
theorem bld_at {ops : List MakeT} (hm : 0 ≤ most) (ho : ∀ o ∈ ops, MakeOK o) {n : Nat} (h : n < ops.length) : (bld most ops).2[n + 1]? = some (mk1 most (bld most (ops.take n)).1 (bld most (ops.take n)).2 ops[n]).2 := by
  have hp := bld_pre (most := most) (ops.take (n + 1)) (ops.drop (n + 1))
  rw [List.take_append_drop] at hp
  obtain ⟨s, hs⟩ := hp
  have hc := (bld_take_ok (most := most) hm ho (n := n) (by omega)).cnt
  rw [← hs, bld_take h]
  dsimp only
  rw [List.getElem?_append_left (by simp; omega), List.getElem?_append_right (by omega), hc]
  simp

theorem ref12_Build_spec {sl : Sl} {ops : List MakeT} (s : Sp w0 Ω w) (hv : View yevergreenref12_Make w0 sl ops) (ho : ∀ o ∈ ops, MakeOK o) (hN : ops.length ≤ 900000) (hm : (ops.length : Int) < most) {K : yevergreenref12_Store.T × Sl → World → Prop}
    (h : ∀ m rs w', Sp w0 (own (.int .i64) rs (bld most ops).2 :: rf2 m (bld most ops).1 :: Ω) w' → K (m, rs) w') : C_ref12_Build sl K w := by
  apply S_ref12_Build
  unfold F_ref12_Build
  have hlen := hv.len
  refine s.allocK fun a1 w1 s => s.allocK fun a2 w2 s => s.st0 0 rfl rfl rfl fun w3 s => s.allocK fun a3 w4 s => ?_
  refine loop_by (fun x => x.2.1) ops.length (fun n x w => ∃ m, Sp w0 (own (.int .i64) x.1 (bld most (ops.take n)).2 :: rf2 m (bld most (ops.take n)).1 :: cel a2 (cells yevergreenref12_Store m) :: cel a1 [.slice none 0 0, .slice none 0 0] :: Ω) w) rfl ⟨((⟨none, 0, 0⟩ : Sl), (⟨none, 0, 0⟩ : Sl)), ?_⟩ ?_
  · have s' := Sp.rf20 (s.lit (ty := .int .i64) 0 rfl [(0 : Int)] 1 rfl rfl)
    exact s'.pick [1, 0] 2 rfl (by decide)
  rintro n ⟨rs, x, _⟩ w5 hn hx ⟨m, s⟩ _
  dsimp only at hx s ⊢
  subst hx
  refine gd_dec (fun hlt => ?_) (fun hge => ?_)
  rotate_left
  · have e : n = ops.length := by omega
    subst e
    rw [List.take_length] at s
    exact s.ld0 (ty := yevergreenref12_Store) (x := m) 2 rfl rfl (s.st0 3 rfl rfl rfl fun w6 s => s.ld0 (ty := yevergreenref12_Store) (x := m) 3 rfl rfl (h m rs _ (s.pick [0, 1] 4 rfl (by decide))))
  have hn' : n < ops.length := by omega
  have hget := List.getElem?_eq_getElem hn'
  have hok := ho _ (List.getElem_mem hn')
  have hb := bld_take_ok (most := most) (by omega) ho hn
  have hnext := bld_take (most := most) hn'
  generalize ops[n] = o at hget hok hnext
  generalize (bld most (ops.take n)).1 = T at *
  generalize (bld most (ops.take n)).2 = res at *
  have hc := hb.cnt
  have hT := hb.len
  refine ⟨fun x w => ∃ b m', x.1 = ⟨b, 0, none⟩ ∧ x.2.1 = (mk1 most T res o).2 ∧ Sp w0 (cel b (cells yevergreenref12_Store m') :: rf2 m' (mk1 most T res o).1 :: own (.int .i64) rs res :: cel a2 (cells yevergreenref12_Store m) :: cel a1 [.slice none 0 0, .slice none 0 0] :: Ω) w, ?_, ?_⟩
  · refine s.drawK fun w6 s => s.ld0 (ty := yevergreenref12_Store) (x := m) 2 rfl rfl ((hv.ext s.ext).idx2 rfl hget rfl fun q hq => ⟨o, hq _ (hv.ext s.ext), ?_, ?_⟩)
    · refine ref12_One_spec hok hb.grow (by omega) (by omega) hb.known (by omega) (by omega) s 0 rfl 1 rfl fun m' w7 s => s.allocK fun b w8 s => s.st0 0 rfl rfl rfl fun w9 s => ⟨b, m', rfl, rfl, s.pick [0, 1, 2, 4, 5] 6 rfl (by decide)⟩
    · refine s.allocK fun b w7 s => ⟨hq _ (hv.ext s.ext), s.at_ 3 rfl, ref12_One_spec hok hb.grow (by omega) (by omega) hb.known (by omega) (by omega) s 1 rfl 2 rfl fun m' w7 s => s.st0 1 rfl rfl rfl fun w9 s => ⟨b, m', rfl, rfl, s.pick [1, 0, 2, 4, 5] 6 rfl (by decide)⟩⟩
  rintro ⟨_, id, _⟩ w6 ⟨b, m', hb1, hb2, s⟩ _
  dsimp only at hb1 hb2 ⊢
  subst hb1 hb2
  refine s.ld0 (ty := yevergreenref12_Store) (x := m') 0 rfl rfl (s.st0 3 rfl rfl rfl fun w7 s => s.allocK fun a16 w8 s => s.app 3 rfl ((s.lit (ty := .int .i64) 0 rfl [(mk1 most T res o).2] 1 rfl rfl).view 0 rfl) (by simp only [List.length_cons, List.length_nil]; omega) fun s17 w9 s => arith_i64 (by omega) (by omega) (loop_nx hn' ⟨m', ?_⟩))
  rw [hnext]
  exact s.pick [3, 2, 4, 5] 6 rfl (by decide)

theorem law12_Build_spec {sl : Sl} {ops : List MakeT} (s : Sp w0 Ω w) (i : Nat) (hi : Ω[i]? = some (sto p most [])) (hv : View yevergreenref12_Make w0 sl ops) (ho : ∀ o ∈ ops, MakeOK o) (hN : ops.length ≤ 900000) (hm : (ops.length : Int) < most) {K : Sl × Bool → World → Prop}
    (h : ∀ rs w', Sp w0 (own (.int .i64) rs (bld most ops).2 :: Ω.set i (sto p most (bld most ops).1)) w' → K (rs, true) w') : C_law12_Build (some p) sl K w := by
  apply S_law12_Build
  unfold F_law12_Build
  have hlen := hv.len
  refine ref12_Build_spec s hv ho hN hm fun m ws w1 s => s.allocK fun a2 w2 s => s.st0 0 rfl rfl rfl fun w3 s => s.allocK fun a3 w4 s => ?_
  have hli : i < Ω.length := (List.getElem?_eq_some_iff.1 hi).1
  refine loop_by (fun x => x.2.1) ops.length (fun n x w => Sp w0 (own (.int .i64) x.1 (bld most (ops.take n)).2 :: own (.int .i64) ws (bld most ops).2 :: Ω.set i (sto p most (bld most (ops.take n)).1)) w) rfl ?_ ?_
  · have hs : Ω.set i (sto p most (bld most (ops.take 0)).1) = Ω := setSame hi
    dsimp only
    rw [hs]
    exact (s.lit (ty := .int .i64) 0 rfl [(0 : Int)] 1 rfl rfl).pick [0, 2] 4 rfl (by decide)
  rintro n ⟨rs, x, _⟩ w5 hn hx s _
  dsimp only at hx s ⊢
  subst hx
  refine gd_dec (fun hlt => ?_) (fun hge => ?_)
  rotate_left
  · have e : n = ops.length := by omega
    subst e
    rw [List.take_length] at s
    exact h rs _ (s.pick [0] 2 rfl (by decide))
  have hn' : n < ops.length := by omega
  have hget := List.getElem?_eq_getElem hn'
  have hok := ho _ (List.getElem_mem hn')
  have hb := bld_take_ok (most := most) (by omega) ho hn
  have hnext := bld_take (most := most) hn'
  have hat := bld_at (most := most) (by omega) ho hn'
  generalize ops[n] = o at hget hok hnext hat
  generalize (bld most (ops.take n)).1 = T at *
  generalize (bld most (ops.take n)).2 = res at *
  have hc := hb.cnt
  have hT := hb.len
  have hrl := (s.view 0 rfl).len
  have hi' : ∀ X, (Ω.set i X)[i]? = some X := fun X => by rw [List.getElem?_set]; simp [hli]
  obtain ⟨k1, e1, hg1, hm1⟩ := rsAt_get (show 1 ≤ res.length by omega) (mLeft o)
  obtain ⟨k2, e2, hg2, hm2⟩ := rsAt_get (show 1 ≤ res.length by omega) (mRight o)
  have hp1 : mk1 most T res o = if pickN (mKind o) 4 = 0 then ((pLetter T most (mLet o)).1, (pLetter T most (mLet o)).2.1)
    else if pickN (mKind o) 4 = 3 then ((pPower T most (rsAt res (mLeft o)) (if mTimes o < 0 then 0 else mTimes o)).1, (pPower T most (rsAt res (mLeft o)) (if mTimes o < 0 then 0 else mTimes o)).2.1)
    else ((pPair T most (rsAt res (mLeft o)) (rsAt res (mRight o))).1, (pPair T most (rsAt res (mLeft o)) (rsAt res (mRight o))).2.1) := rfl
  refine (hv.ext s.ext).idx rfl hget rfl fun q hq => ⟨o, hq, s.allocK fun a8 w6 s => s.st0 0 rfl rfl rfl fun w7 s => s.drawK fun w8 s => s.ldi (x := mLeft o) 0 2 rfl rfl (s.ldi (x := mRight o) 0 3 rfl rfl (ref12_Pick_eq (by omega) (by omega) ⟨s.still 0 3 rfl rfl, ?_⟩))⟩
  rw [show ((rs.len : Nat) : Int) = (res.length : Int) by omega]
  refine (s.view 1 rfl).idx2 e1 hg1 rfl fun q1 hq1 => ⟨_, hq1 _ (s.view 1 rfl), ref12_Pick_eq (by omega) (by omega) ⟨hq1 _ (s.view 1 rfl), ?_⟩⟩
  refine (s.view 1 rfl).idx e2 hg2 rfl fun q2 hq2 => ⟨_, hq2, ?_⟩
  generalize rsAt res (mLeft o) = l at *
  generalize rsAt res (mRight o) = r at *
  refine ⟨fun x w => x.1 = (mk1 most T res o).2 ∧ Sp w0 (cel a8 (cells yevergreenref12_Make o) :: own (.int .i64) rs res :: own (.int .i64) ws (bld most ops).2 :: Ω.set i (sto p most (mk1 most T res o).1)) w, ?_, ?_⟩
  · refine s.ldi (x := mKind o) 0 0 rfl rfl (ref12_Pick_eq (by decide) (by decide) ?_)
    have hss : ∀ X Y : Ob, (Ω.set i X).set i Y = Ω.set i Y := fun X Y => List.set_set ..
    refine gd_eq (fun c0 => ?_) (fun c0 => gd_eq (fun c3 => ?_) (fun c3 => ?_))
    · rw [if_pos c0] at hp1
      rw [hp1]
      refine s.ldi (x := mLet o) 0 1 rfl rfl (intern_Letter_sp s (i + 3) (hi' _) hok.b fun w9 s => ⟨rfl, ?_⟩)
      rw [← hss (sto p most T)]
      exact s
    · rw [if_neg c0, if_pos c3] at hp1
      rw [hp1]
      refine s.ldi (x := mTimes o) 0 4 rfl rfl (intern_Power_sp s (i + 3) (hi' _) (by have := hok.k; split <;> omega) fun w9 s => ⟨rfl, ?_⟩)
      rw [← hss (sto p most T)]
      exact s
    · rw [if_neg c0, if_neg c3] at hp1
      rw [hp1]
      refine intern_Pair_sp s (i + 3) (hi' _) fun w9 s => ⟨rfl, ?_⟩
      rw [← hss (sto p most T)]
      exact s
  rintro ⟨id, _⟩ w9 ⟨hid, s⟩ _
  dsimp only at hid ⊢
  subst hid
  refine arith_i64 (by omega) (by omega) ((s.view 2 rfl).idx (n := n + 1) (by omega) hat rfl fun q3 hq3 => ⟨_, hq3, gd_f (by simp) (s.allocK fun a29 w10 s => s.app 2 rfl ((s.lit (ty := .int .i64) 0 rfl [(mk1 most T res o).2] 1 rfl rfl).view 0 rfl) (by simp only [List.length_cons, List.length_nil]; omega) fun s30 w11 s => arith_i64 (by omega) (by omega) (loop_nx hn' ?_))⟩)
  rw [hnext]
  exact s.drop 2

end Go.Proofs.YtnmgjpcooncjlaaGreat

/- law12: the store that all statements begin with, roots, the specification's Reach and List; the walks of CollectReaches and CollectCloses. -/
set_option linter.unusedVariables false
set_option linter.unusedSimpArgs false
namespace Go.Proofs.YtnmgjpcooncjlaaGreat
open Go.Den

variable {w0 w : World} {Ω : List Ob} {most : Int} {T : List ET} {i j : Nat} {p : Addr} {m : yevergreenref12_Store.T}

/-! ### A list of marks -/
def MB (N : Nat) (inl : List Ty.bool.T) (q : Nat → Prop) : Prop := inl.length = N + 1 ∧ ∀ x : Nat, x ≤ N → ∃ b : Bool, inl[x]? = some b ∧ (b = true ↔ q x)
theorem MB.iff {N : Nat} {inl : List Ty.bool.T} {q r : Nat → Prop} (h : MB N inl q) (e : ∀ x, x ≤ N → (q x ↔ r x)) : MB N inl r :=
  ⟨h.1, fun x hx => by obtain ⟨b, h1, h2⟩ := h.2 x hx; exact ⟨b, h1, h2.trans (e x hx)⟩⟩
theorem MB.put {N k : Nat} {inl : List Ty.bool.T} {q : Nat → Prop} (h : MB N inl q) (v : Bool) (hk : k ≤ N) : MB N (inl.set k v) (fun x => if x = k then v = true else q x) := by
  refine ⟨by rw [List.length_set]; exact h.1, fun x hx => ?_⟩
  have hl := h.1
  rw [List.getElem?_set]
  by_cases c : k = x
  · subst c
    exact ⟨v, by rw [if_pos rfl, if_pos (by omega)], by dsimp only; rw [if_pos rfl]⟩
  · obtain ⟨b, h1, h2⟩ := h.2 x hx
    exact ⟨b, by rw [if_neg c]; exact h1, by dsimp only; rw [if_neg (Ne.symm c)]; exact h2⟩
def trues (inl : List Ty.bool.T) (n : Nat) : List Int := ((List.range n).filter fun i => inl.getD i false).map fun i : Nat => (i : Int)
theorem trues_succ (inl : List Ty.bool.T) (n : Nat) : trues inl (n + 1) = trues inl n ++ (if inl.getD n false = true then [(n : Int)] else []) := by
  unfold trues
  rw [List.range_succ, List.filter_append, List.map_append]
  congr 1
  cases c : inl.getD n false with
  | true => rw [List.filter_cons_of_pos (p := fun i => inl.getD i false) c]; simp
  | false => rw [List.filter_cons_of_neg (p := fun i => inl.getD i false) (by rw [c]; simp)]; simp
theorem trues_len (inl : List Ty.bool.T) (n : Nat) : (trues inl n).length ≤ n := by
  unfold trues
  rw [List.length_map]
  exact Nat.le_trans (List.length_filter_le _ _) (by simp)
theorem trues_sorted (inl : List Ty.bool.T) (n : Nat) : (trues inl n).Pairwise (fun x y => x < y) := by
  unfold trues
  rw [List.pairwise_map]
  exact (List.pairwise_lt_range.filter _).imp fun h => by omega
theorem MB.mem {N : Nat} {inl : List Ty.bool.T} {q : Nat → Prop} (h : MB N inl q) {x : Int} : x ∈ trues inl (N + 1) ↔ ∃ n : Nat, x = n ∧ n ≤ N ∧ q n := by
  unfold trues
  rw [List.mem_map]
  constructor
  · rintro ⟨n, hn, rfl⟩
    obtain ⟨h1, h2⟩ := List.mem_filter.1 hn
    have h3 := List.mem_range.1 h1
    obtain ⟨b, h4, h5⟩ := h.2 n (by omega)
    rw [List.getD_eq_getElem?_getD, h4] at h2
    exact ⟨n, rfl, by omega, h5.1 h2⟩
  · rintro ⟨n, rfl, hn, hq⟩
    obtain ⟨b, h4, h5⟩ := h.2 n hn
    refine ⟨n, List.mem_filter.2 ⟨List.mem_range.2 (by omega), ?_⟩, rfl⟩
    rw [List.getD_eq_getElem?_getD, h4]
    exact h5.2 hq
/-! ### Reach of the specification -/
theorem ref12_Refs_spec {r : RT} (s : Sp w0 Ω w) {K : Sl → World → Prop} (h : ∀ sl w', Sp w0 (own (.int .i64) sl (refs r) :: Ω) w' → K sl w') : C_ref12_Refs r K w := by
  apply S_ref12_Refs
  unfold F_ref12_Refs
  refine s.allocK fun a1 w1 s => s.ldi (x := r.1) 0 0 rfl rfl (gd_eq (fun c => ?_) (fun c => s.ldi (x := r.1) 0 0 rfl rfl (gd_eq (fun c3 => ?_) (fun c3 => ?_))))
  · have : refs r = [r.2.2.1, r.2.2.2.1] := by unfold refs; rw [if_pos c]
    rw [this] at h
    exact s.ldi (x := r.2.2.1) 0 2 rfl rfl (s.ldi (x := r.2.2.2.1) 0 3 rfl rfl (s.allocK fun a5 w2 s => h _ _ ((s.lit (ty := .int .i64) 0 rfl [r.2.2.1, r.2.2.2.1] 2 rfl rfl).pick [0] 2 rfl (by decide))))
  · have : refs r = [r.2.2.1] := by unfold refs; rw [if_neg c, if_pos c3]
    rw [this] at h
    exact s.ldi (x := r.2.2.1) 0 2 rfl rfl (s.allocK fun a5 w2 s => h _ _ ((s.lit (ty := .int .i64) 0 rfl [r.2.2.1] 1 rfl rfl).pick [0] 2 rfl (by decide)))
  · have : refs r = [] := by unfold refs; rw [if_neg c, if_neg c3]
    rw [this] at h
    exact h _ _ (s.pop.nil (.int .i64))
def RchQ (T : List ET) (S : List Int) (x : Nat) : Prop := x ≠ 0 ∧ Rch T S x
theorem ref12_Reach_spec {rsl : Sl} {S : List Int} (g : Grow T) (s : Sp w0 Ω w) (j : Nat) (hj : Ω[j]? = some (rf2 m T)) (hl : T.length ≤ 1048576) (hv : ∀ w', Sp w0 Ω w' → View (.int .i64) w' rsl S) (hSN : S.length ≤ 1000000000) {K : Sl × Bool → World → Prop}
    (h : (∀ x ∈ S, 0 ≤ x ∧ x ≤ (T.length : Int)) → ∀ sl (inl : List Ty.bool.T) w', MB T.length inl (RchQ T S) → Sp w0 (own .bool sl inl :: Ω) w' → K (sl, true) w')
    (hbad : ¬ (∀ x ∈ S, 0 ≤ x ∧ x ≤ (T.length : Int)) → ∀ w', Sp w0 Ω w' → K (⟨none, 0, 0⟩, false) w') : C_ref12_Reach m rsl K w := by
  apply S_ref12_Reach
  unfold F_ref12_Reach
  have hlen := (Sp.rf2_ s j hj).1.len
  rw [rulesOf_len] at hlen
  have hSl := (hv _ s).len
  have hN : ((m.1.len : Int) + 1).toNat = T.length + 1 := by omega
  refine s.allocK fun a1 w1 s => s.lds (x := m.1) 0 0 rfl rfl (arith_i64 (by omega) (by omega) ⟨by omega, by omega, by omega, by omega, s.mkS .bool false (T.length + 1) (T.length + 1) (Nat.le_refl _) (fun a4 w2 s => ?_) rfl (by rw [hN]; rfl)⟩)
  rw [hN]
  refine loop_by (fun x => x.1) S.length (fun n _ w => (∀ x ∈ S.take n, 0 ≤ x ∧ x ≤ (T.length : Int)) ∧ ∃ inl, MB T.length inl (fun x => x ≠ 0 ∧ (x : Int) ∈ S.take n) ∧ Sp w0 (own .bool ⟨some ⟨a4, 0, none⟩, T.length + 1, T.length + 1⟩ inl :: cel a1 (cells yevergreenref12_Store m) :: Ω) w) rfl ⟨by simp, _, ⟨by simp, fun x hx => ⟨false, by rw [List.getElem?_replicate, if_pos (by omega)], by simp⟩⟩, s⟩ ?_
  clear s
  rintro n ⟨x, _⟩ w3 hn hx ⟨hkn, inl, hmb, s⟩ _
  dsimp only at hx ⊢
  subst hx
  refine gd_dec (fun hlt => ?_) (fun hge => ?_)
  · have hn' : n < S.length := by omega
    have hget := List.getElem?_eq_getElem hn'
    have htk : S.take (n + 1) = S.take n ++ [S[n]] := by rw [List.take_add_one, hget]; rfl
    have hmem := List.getElem_mem hn'
    generalize S[n] = z at hget htk hmem
    refine s.drawK fun w4 s => s.ld0 (ty := yevergreenref12_Store) (x := m) 1 rfl rfl ((hv _ (s.drop 2)).idx rfl hget rfl fun q hq => ⟨z, hq, ref12_Known_spec s (j + 2) hj fun w5 s => ?_⟩)
    by_cases hz : 0 ≤ z ∧ z ≤ (T.length : Int)
    · rw [show known T z = true from decide_eq_true hz]
      refine gd_f rfl (s.drawK fun w6 s => (hv _ (s.drop 2)).idx rfl hget rfl fun q2 hq2 => ⟨z, hq2, (hv _ (s.drop 2)).idx rfl hget rfl fun q3 hq3 => ⟨z, hq3, ?_⟩⟩)
      have hil := hmb.1
      refine s.setI 0 rfl (n := z.toNat) (y := decide (0 < z)) (by omega) (by omega) fun w7 s => arith_i64 (by omega) (by omega) (loop_nx hn' ⟨fun u hu => ?_, _, (hmb.put (decide (0 < z)) (show z.toNat ≤ T.length by omega)).iff fun x hx => ?_, s⟩)
      · rw [htk] at hu
        rcases List.mem_append.1 hu with h | h
        · exact hkn u h
        · simp at h; subst h; exact hz
      · rw [htk]
        simp only [List.mem_append, List.mem_singleton, decide_eq_true_eq]
        by_cases c : x = z.toNat
        · rw [if_pos c]; omega
        · rw [if_neg c]
          constructor
          · rintro ⟨h1, h2⟩; exact ⟨h1, Or.inl h2⟩
          · rintro ⟨h1, h2 | h2⟩
            · exact ⟨h1, h2⟩
            · omega
    · rw [show known T z = false from decide_eq_false hz]
      exact gd_t rfl (hbad (fun h => hz (h z hmem)) _ (s.drop 2))
  have en : n = S.length := by omega
  subst en
  rw [List.take_length] at hkn hmb
  have hS := hkn
  refine s.lds (x := m.1) 1 0 rfl rfl ⟨fun x w => ∃ (i : Nat) (inl : List Ty.bool.T), x.1 = (i : Int) ∧ i ≤ T.length ∧ MB T.length inl (fun x => x ≠ 0 ∧ ((x : Int) ∈ S ∨ ∃ y : Int, (i : Int) < y ∧ Rch T S y ∧ (x : Int) ∈ refs (eAt T y).1)) ∧
      Sp w0 (own .bool ⟨some ⟨a4, 0, none⟩, T.length + 1, T.length + 1⟩ inl :: cel a1 (cells yevergreenref12_Store m) :: Ω) w, fun x _ => x.1.toNat, ⟨T.length, inl, by dsimp only; omega, Nat.le_refl _, hmb.iff fun x hx => ?_, s⟩, ?_⟩
  · constructor
    · rintro ⟨h1, h2⟩; exact ⟨h1, Or.inl h2⟩
    · rintro ⟨h1, h2 | ⟨y, h3, h4, _⟩⟩
      · exact ⟨h1, h2⟩
      · have := (h4.bound g hS).2; omega
  clear hmb s
  rintro ⟨x, _⟩ w5 ⟨i, inl, hx, hi, hmb, s⟩ _
  dsimp only at hx ⊢
  subst hx
  have hil := hmb.1
  refine gd_dec (fun hp => ?_) (fun hp => ?_)
  · have hi1 : 1 ≤ i := by omega
    obtain ⟨b, hb, hbi⟩ := hmb.2 i hi
    have hbr : b = true ↔ Rch T S i := by
      rw [hbi, Rch.iff g hS (by omega)]
      constructor
      · rintro ⟨_, h⟩; exact h
      · intro h; exact ⟨by omega, h⟩
    have hget := rulesOf_get (T := T) (n := i - 1) (by omega)
    rw [show ((i - 1 : Nat) : Int) + 1 = i by omega] at hget
    refine ⟨fun _ w => ∃ inl' : List Ty.bool.T, MB T.length inl' (fun x => x ≠ 0 ∧ ((x : Int) ∈ S ∨ ∃ y : Int, (i : Int) - 1 < y ∧ Rch T S y ∧ (x : Int) ∈ refs (eAt T y).1)) ∧
      Sp w0 (own .bool ⟨some ⟨a4, 0, none⟩, T.length + 1, T.length + 1⟩ inl' :: cel a1 (cells yevergreenref12_Store m) :: Ω) w, ?_, ?_⟩
    · refine s.lds (x := m.1) 1 0 rfl rfl (arith_i64 (by omega) (by omega) ((Sp.rf2_ s (j + 2) hj).1.idx (n := i - 1) (by omega) hget rfl fun q hq => ⟨_, hq, ref12_Refs_spec s fun rl w6 s => ?_⟩))
      have hrl := refs_len (eAt T (i : Int)).1
      refine loop_by (fun x => x.1) (refs (eAt T (i : Int)).1).length (fun n _ w => (n = 0 ∨ b = true) ∧ ∃ inl' : List Ty.bool.T, MB T.length inl' (fun x => x ≠ 0 ∧ (((x : Int) ∈ S ∨ ∃ y : Int, (i : Int) < y ∧ Rch T S y ∧ (x : Int) ∈ refs (eAt T y).1) ∨ (x : Int) ∈ (refs (eAt T (i : Int)).1).take n)) ∧ inl'[i]? = some b ∧
        Sp w0 (own (.int .i64) rl (refs (eAt T (i : Int)).1) :: own .bool ⟨some ⟨a4, 0, none⟩, T.length + 1, T.length + 1⟩ inl' :: cel a1 (cells yevergreenref12_Store m) :: Ω) w) rfl ⟨Or.inl rfl, inl, hmb.iff fun x hx => by simp, hb, s⟩ ?_
      clear s
      rintro k ⟨x, _⟩ w7 hk hx ⟨hkb, inl', hmb', hb', s⟩ _
      dsimp only at hx ⊢
      subst hx
      have hil' := hmb'.1
      have hrlen := (s.view 0 rfl).len
      have done : (k = (refs (eAt T (i : Int)).1).length ∨ b = false) → ∃ inl' : List Ty.bool.T, MB T.length inl' (fun x => x ≠ 0 ∧ ((x : Int) ∈ S ∨ ∃ y : Int, (i : Int) - 1 < y ∧ Rch T S y ∧ (x : Int) ∈ refs (eAt T y).1)) ∧
          Sp w0 (own .bool ⟨some ⟨a4, 0, none⟩, T.length + 1, T.length + 1⟩ inl' :: cel a1 (cells yevergreenref12_Store m) :: Ω) w7 := by
        intro hend
        refine ⟨inl', hmb'.iff fun x hx => ?_, s.pop⟩
        constructor
        · rintro ⟨h1, (h2 | ⟨y, h3, h4, h5⟩) | h2⟩
          · exact ⟨h1, Or.inl h2⟩
          · exact ⟨h1, Or.inr ⟨y, by omega, h4, h5⟩⟩
          · have hbt : b = true := by
              rcases hkb with rfl | h
              · simp at h2
              · exact h
            exact ⟨h1, Or.inr ⟨i, by omega, hbr.1 hbt, List.mem_of_mem_take h2⟩⟩
        · rintro ⟨h1, h2 | ⟨y, h3, h4, h5⟩⟩
          · exact ⟨h1, Or.inl (Or.inl h2)⟩
          · by_cases hy : y = i
            · subst hy
              rcases hend with hend | hend
              · refine ⟨h1, Or.inr ?_⟩
                rw [hend, List.take_length]; exact h5
              · rw [hbr.2 h4] at hend; cases hend
            · exact ⟨h1, Or.inl (Or.inr ⟨y, by omega, h4, h5⟩)⟩
      refine JoinP.inl (gd_dec (fun hlt => ?_) (fun hge => done (Or.inl (by omega))))
      have hk' : k < (refs (eAt T (i : Int)).1).length := by omega
      refine (s.view 1 rfl).idx (n := i) rfl hb' rfl fun q2 hq2 => ⟨b, hq2, gd_mk (fun e => ?_) (fun e => done (Or.inr e))⟩
      intro _
      obtain ⟨z, hz⟩ : ∃ z : Int, (refs (eAt T (i : Int)).1)[k]? = some z := ⟨_, List.getElem?_eq_getElem hk'⟩
      have hzb := refs_in g (y := (i : Int)) (by omega) (by omega) (List.mem_of_getElem? hz)
      have htk : (refs (eAt T (i : Int)).1).take (k + 1) = (refs (eAt T (i : Int)).1).take k ++ [z] := by rw [List.take_add_one, hz]; rfl
      refine (s.view 0 rfl).idx rfl hz rfl fun q3 hq3 => ⟨z, hq3, s.setI 1 rfl (n := z.toNat) (y := true) (by omega) (by omega) fun w8 s => arith_i64 (by omega) (by omega) (loop_nx hk' ⟨Or.inr e, _, (hmb'.put true (show z.toNat ≤ T.length by omega)).iff fun x hx => ?_, ?_, s⟩)⟩
      · rw [htk]
        simp only [List.mem_append, List.mem_singleton]
        by_cases c : x = z.toNat
        · rw [if_pos c]
          refine ⟨fun _ => ⟨by omega, Or.inr (Or.inr (by omega))⟩, fun _ => by first | trivial | rfl⟩
        · rw [if_neg c]
          constructor
          · rintro ⟨h1, h2 | h2⟩
            · exact ⟨h1, Or.inl h2⟩
            · exact ⟨h1, Or.inr (Or.inl h2)⟩
          · rintro ⟨h1, h2 | h2 | h2⟩
            · exact ⟨h1, Or.inl h2⟩
            · exact ⟨h1, Or.inr h2⟩
            · omega
      · rw [List.getElem?_set, if_neg (by omega)]; exact hb'
    · rintro _ w6 ⟨inl', hmb', s⟩ _
      refine arith_i64 (by omega) (by omega) ⟨⟨i - 1, inl', by omega, by omega, ?_, s⟩, by omega⟩
      rw [show ((i - 1 : Nat) : Int) = (i : Int) - 1 by omega]
      exact hmb'
  · have hi0 : i = 0 := by omega
    subst hi0
    refine h hS _ _ _ (hmb.iff fun x hx => ?_) (s.pick [0] 2 rfl (by decide))
    unfold RchQ
    by_cases c : x = 0
    · subst c; simp
    · rw [Rch.iff g hS (by omega)]
      constructor
      · rintro ⟨h1, h2 | ⟨y, h3, h4, h5⟩⟩
        · exact ⟨h1, Or.inl h2⟩
        · have b := h4.bound g hS
          exact ⟨h1, Or.inr ⟨y, (refs_in g b.1 b.2 h5).2, h4, h5⟩⟩
      · rintro ⟨h1, h2 | ⟨y, h3, h4, h5⟩⟩
        · exact ⟨h1, Or.inl h2⟩
        · exact ⟨h1, Or.inr ⟨y, by have := (h4.bound g hS).1; omega, h4, h5⟩⟩
theorem trues_rlist {S : List Int} {inl : List Ty.bool.T} (g : Grow T) (hS : ∀ x ∈ S, 0 ≤ x ∧ x ≤ (T.length : Int)) (hm : MB T.length inl (RchQ T S)) : trues inl inl.length = rlist T S := by
  rw [hm.1]
  refine sorted_unique (trues_sorted _ _) rlist_sorted fun x => ?_
  rw [hm.mem, rlist_mem g hS]
  constructor
  · rintro ⟨n, rfl, _, h⟩; exact h.2
  · intro h
    have b := h.bound g hS
    refine ⟨x.toNat, by omega, by omega, by omega, ?_⟩
    rwa [show ((x.toNat : Nat) : Int) = x by omega]

end Go.Proofs.YtnmgjpcooncjlaaGreat

/- law12: begun, roots; the walks of CollectReaches and CollectCloses. -/
set_option linter.unusedVariables false
set_option linter.unusedSimpArgs false
namespace Go.Proofs.YtnmgjpcooncjlaaGreat
open Go.Den

variable {w0 w : World} {Ω : List Ob} {most : Int} {T : List ET} {i j : Nat} {p : Addr} {m : yevergreenref12_Store.T}

abbrev Known_ (T : List ET) (S : List Int) : Prop := ∀ x ∈ S, 0 ≤ x ∧ x ≤ (T.length : Int)
theorem is_err {n : Int} (hn : n ≠ 0) {K : Bool → World → Prop} (h : K true w) : C_base_Is (errV n) n K w :=
  base_Is_err hn (by rw [decide_eq_true rfl]; exact h)
theorem collect_Reach_both {rsl : Sl} {S : List Int} (s : Sp w0 Ω w) (i : Nat) (hi : Ω[i]? = some (sto p most T)) (hv : ∀ w', Sp w0 Ω w' → View (.int .i64) w' rsl S) (hSN : S.length ≤ 1000000000) {K : Sl × Value → World → Prop}
    (h : ∀ (r : Sl × Value) (L : List (Ty.int .i64).T) w', (Known_ T S ∧ r.2 = .nilIface ∧ L = rlist T S) ∨ (¬ Known_ T S ∧ r = (⟨none, 0, 0⟩, errV 1) ∧ L = []) → Sp w0 (own (.int .i64) r.1 L :: Ω) w' → K r w') : C_collect_Reach (some p) rsl K w :=
  collect_Reach_sp s i hi hv hSN (fun hk sl w' s => h (sl, .nilIface) _ w' (Or.inl ⟨hk, rfl, rfl⟩) s) (fun hn w' s => h (⟨none, 0, 0⟩, errV 1) [] w' (Or.inr ⟨hn, rfl, rfl⟩) (s.nil (.int .i64)))

/-! ### The store that all begin with -/
theorem first_a : pLetter [] 1 97 = ([mkLetter 97], ((1 : Int), Value.nilIface)) := by kernel_rfl
theorem grow_a : Grow [mkLetter 97] := Grow.letter (L := []) (b := 97) .nil (by decide) (by decide) rfl
theorem rlist_a : rlist [mkLetter 97] [1] = [1] := by
  have hS : ∀ x ∈ [(1 : Int)], 0 ≤ x ∧ x ≤ (([mkLetter 97] : List ET).length : Int) := fun x hx => by simp at hx; subst hx; decide
  refine sorted_unique rlist_sorted (by simp) fun x => ?_
  rw [rlist_mem grow_a hS]
  constructor
  · intro h
    have := h.bound grow_a hS
    have h1 : (([mkLetter 97] : List ET).length : Int) = 1 := rfl
    simp; omega
  · intro h
    simp at h
    subst h
    exact .root (by simp) (by decide)
/-! ### Roots -/
def rootP (T : List ET) (res : List Int) (n : Int) : Int := if n = -4 then -1 else if n = -5 then (T.length : Int) + 1 else rsAt res n
def rootL (T : List ET) (res : List Int) (picks : List Int) : List (Ty.int .i64).T := picks.map (rootP T res)
theorem rootL_len (T : List ET) (res picks : List Int) : (rootL T res picks).length = picks.length := List.length_map _
/-! ### Closure -/
theorem rlist_rlist {S : List Int} (g : Grow T) (hS : Known_ T S) : rlist T (rlist T S) = rlist T S ∧ Known_ T (rlist T S) := by
  have hk : Known_ T (rlist T S) := fun x hx => by
    have := (mem_rlist.1 hx).1
    omega
  refine ⟨sorted_unique rlist_sorted rlist_sorted fun x => ?_, hk⟩
  rw [rlist_mem g hk, rlist_mem g hS]
  constructor
  · intro h
    induction h with
    | root h1 _ => exact (rlist_mem g hS).1 h1
    | ref _ h2 ih => exact .ref ih h2
  · intro h
    exact .root ((rlist_mem g hS).2 h) (by have := (h.bound g hS).1; omega)
theorem rlist_union {S S' : List Int} (g : Grow T) (hS : Known_ T S) (hS' : Known_ T S') : Known_ T (S ++ S') ∧ ∀ x, x ∈ rlist T (S ++ S') ↔ x ∈ rlist T S ++ rlist T S' := by
  have hk : Known_ T (S ++ S') := fun x hx => by
    rcases List.mem_append.1 hx with h | h
    · exact hS x h
    · exact hS' x h
  refine ⟨hk, fun x => ?_⟩
  rw [rlist_mem g hk, List.mem_append, rlist_mem g hS, rlist_mem g hS']
  constructor
  · intro h
    induction h with
    | root h1 h2 =>
      rcases List.mem_append.1 h1 with h | h
      · exact Or.inl (.root h h2)
      · exact Or.inr (.root h h2)
    | ref _ h2 ih =>
      rcases ih with ih | ih
      · exact Or.inl (.ref ih h2)
      · exact Or.inr (.ref ih h2)
  · rintro (h | h)
    · exact h.mono fun y hy => List.mem_append_left _ hy
    · exact h.mono fun y hy => List.mem_append_right _ hy
theorem same_len {L M : List Int} (hL : L.Nodup) (hM : M.Nodup) (h : ∀ x, x ∈ L ↔ x ∈ M) : L.length = M.length := by
  have := sorted_unique (srt_lt hL) (srt_lt hM) fun x => by rw [(srt_perm L).mem_iff, (srt_perm M).mem_iff]; exact h x
  have := congrArg List.length this
  rwa [srt_len, srt_len] at this
theorem mapIB2 : P.underlying t_map_api_ID_bool = some (.map t_api_ID (mapElem t_map_api_ID_bool)) := mapIB
end Go.Proofs.YtnmgjpcooncjlaaGreat

/- law12: counts of references; the walks of CollectCounts and CollectSums. -/
set_option linter.unusedVariables false
set_option linter.unusedSimpArgs false
namespace Go.Proofs.YtnmgjpcooncjlaaGreat
open Go.Den

variable {w0 w : World} {Ω : List Ob} {most : Int} {T : List ET} {i j : Nat} {p : Addr} {m : yevergreenref12_Store.T}

/-- to write a field of an element -/
theorem Sp.putF {ty : Ty} {K : World → Prop} {sl : Sl} {xs : List ty.T} {a : Option Addr} {len : Nat} {i' : Int} {sz off n : Nat} {x y : ty.T} {ds : List Value} (s : Sp w0 Ω w) (i : Nat) (h : Ω[i]? = some (own ty sl xs)) (hi : i' = (n : Int)) (hx : xs[n]? = some x) (hl : off + ds.length ≤ ty.size) (ho : ds.all Go.Den.one = true) (e : cells ty y = splice (cells ty x) off ds)
    (hK : ∀ w', Sp w0 (Ω.set i (own ty sl (xs.set n y))) w' → K w') (ha : a = sl.a := by rfl) (hlen : len = sl.len := by rfl) (hs : sz = ty.size := by rfl) : idxK a len i' sz (fun p => stK w (p.add off) ds K) := by
  subst ha hlen hs hi
  have o := s.own_ i h
  have hsl := o.view.len
  have hn : n < xs.length := (List.getElem?_eq_some_iff.1 hx).1
  obtain ⟨q, hq⟩ := o.view.ne (fun e => by rw [e] at hn; simp at hn)
  refine ⟨q, hq, by omega, by omega, ?_⟩
  rw [Int.toNat_natCast]
  show stK w ((q.add (n * ty.size)).add off) ds K
  rw [Addr.add_add]
  exact s.put i h hq hx hl ho e hK

/-! ### Counts -/
abbrev ctN (x : Int) (L : List Int) : Int := ((L.count x : Nat) : Int)
def allR (T : List ET) (L : List Int) : List Int := L.flatMap fun y => refs (eAt T y).1
theorem allR_append (T : List ET) (L M : List Int) : allR T (L ++ M) = allR T L ++ allR T M := List.flatMap_append
theorem allR_one (T : List ET) (y : Int) : allR T [y] = refs (eAt T y).1 := by simp [allR]
abbrev CNT := Int × Int × Int
def cl (ids R Q : List Int) : List CNT := ids.map fun x => (x, ctN x R, ctN x Q)
theorem cl_len (ids R Q : List Int) : (cl ids R Q).length = ids.length := List.length_map _
theorem cl_get {ids R Q : List Int} {k : Nat} {z : Int} (h : ids[k]? = some z) : (cl ids R Q)[k]? = some (z, ctN z R, ctN z Q) := by unfold cl; rw [List.getElem?_map, h]; rfl
theorem ctN_snoc (x z : Int) (L : List Int) : ctN x (L ++ [z]) = ctN x L + (if z = x then 1 else 0) := by
  unfold ctN
  rw [List.count_append, List.count_singleton]
  by_cases h : z = x
  · rw [if_pos h]; simp [h]
  · rw [if_neg h]; simp [h]
theorem nodup_at {ids : List Int} (hn : ids.Nodup) {i j : Nat} {x : Int} (hi : ids[i]? = some x) (hj : ids[j]? = some x) : i = j := by
  have h1 := List.getElem?_eq_some_iff.1 hi
  have h2 := List.getElem?_eq_some_iff.1 hj
  exact (List.getElem_inj hn (h₀ := h1.1) (h₁ := h2.1)).1 (by rw [h1.2, h2.2])
theorem cl_setR {ids R Q : List Int} (hn : ids.Nodup) {k : Nat} {z : Int} (h : ids[k]? = some z) : (cl ids R Q).set k (z, ctN z R + 1, ctN z Q) = cl ids (R ++ [z]) Q := by
  apply List.ext_getElem?
  intro i
  rw [List.getElem?_set]
  by_cases c : k = i
  · subst c
    rw [if_pos rfl, if_pos (by rw [cl_len]; exact (List.getElem?_eq_some_iff.1 h).1), cl_get h, ctN_snoc, if_pos rfl]
  · rw [if_neg c]
    cases hi : ids[i]? with
    | none =>
      have : ids.length ≤ i := List.getElem?_eq_none_iff.1 hi
      rw [List.getElem?_eq_none (by rw [cl_len]; exact this), List.getElem?_eq_none (by rw [cl_len]; exact this)]
    | some x =>
      rw [cl_get hi, cl_get hi, ctN_snoc, if_neg (show ¬ z = x from fun e => c (nodup_at hn h (e ▸ hi)))]
      simp
theorem cl_setQ {ids R Q : List Int} (hn : ids.Nodup) {k : Nat} {z : Int} (h : ids[k]? = some z) : (cl ids R Q).set k (z, ctN z R, ctN z Q + 1) = cl ids R (Q ++ [z]) := by
  apply List.ext_getElem?
  intro i
  rw [List.getElem?_set]
  by_cases c : k = i
  · subst c
    rw [if_pos rfl, if_pos (by rw [cl_len]; exact (List.getElem?_eq_some_iff.1 h).1), cl_get h, ctN_snoc, if_pos rfl]
  · rw [if_neg c]
    cases hi : ids[i]? with
    | none =>
      have : ids.length ≤ i := List.getElem?_eq_none_iff.1 hi
      rw [List.getElem?_eq_none (by rw [cl_len]; exact this), List.getElem?_eq_none (by rw [cl_len]; exact this)]
    | some x =>
      rw [cl_get hi, cl_get hi, ctN_snoc, if_neg (show ¬ z = x from fun e => c (nodup_at hn h (e ▸ hi)))]
      simp
theorem cl_zero {ids R Q : List Int} (hz : (0 : Int) ∉ ids) : cl ids R (Q ++ [0]) = cl ids R Q := by
  unfold cl
  refine List.map_congr_left fun x hx => ?_
  rw [ctN_snoc, if_neg (show ¬ (0 : Int) = x from fun e => hz (e ▸ hx))]
  simp
/-- the list while the numbers are written -/
def clz (ids : List Int) (n : Nat) : List CNT := cl (ids.take n) [] [] ++ List.replicate (ids.length - n) ((0 : Int), (0 : Int), (0 : Int))
theorem clz_get {ids : List Int} {n : Nat} (hn : n < ids.length) : (clz ids n)[n]? = some ((0 : Int), (0 : Int), (0 : Int)) := by
  unfold clz
  rw [List.getElem?_append_right (by rw [cl_len, List.length_take]; omega), cl_len, List.length_take, Nat.min_eq_left (by omega), Nat.sub_self, List.getElem?_replicate, if_pos (by omega)]
theorem clz_succ {ids : List Int} {n : Nat} {x : Int} (h : ids[n]? = some x) : (clz ids n).set n (x, 0, 0) = clz ids (n + 1) := by
  have hn := (List.getElem?_eq_some_iff.1 h).1
  unfold clz
  have hl : (cl (ids.take n) [] []).length = n := by rw [cl_len, List.length_take]; omega
  rw [List.set_append, if_neg (by omega), hl, Nat.sub_self, show ids.length - n = (ids.length - (n + 1)) + 1 by omega, List.replicate_succ, List.set_cons_zero, List.take_add_one, h]
  simp [cl, ctN]
theorem clz_end (ids : List Int) : clz ids ids.length = cl ids [] [] := by unfold clz; rw [List.take_length, Nat.sub_self]; simp

theorem eqII : P.underlying t_map_api_ID_int = some (.map t_api_ID (mapElem t_map_api_ID_int)) := by kernel_rfl
theorem zeroIN : zeroOf P (mapElem t_map_api_ID_int) = some (val (.int .i64) (0 : Int)) := by kernel_rfl

noncomputable def cntR (T : List ET) (S : List Int) : List CNT := cl (rlist T S) (allR T (rlist T S)) S
theorem refs_rlist (g : Grow T) {S : List Int} (hS : Known_ T S) {y z : Int} (hy : y ∈ rlist T S) (hz : z ∈ refs (eAt T y).1) : z ∈ rlist T S := by
  rw [rlist_mem g hS] at hy ⊢
  exact .ref hy hz

end Go.Proofs.YtnmgjpcooncjlaaGreat

/- law12: the specification's Counts; the walks of CollectCounts and CollectSums. -/
set_option linter.unusedVariables false
set_option linter.unusedSimpArgs false
namespace Go.Proofs.YtnmgjpcooncjlaaGreat
open Go.Den

variable {w0 w : World} {Ω : List Ob} {most : Int} {T : List ET} {i j : Nat} {p : Addr} {m : yevergreenref12_Store.T}

theorem allR_len (L : List Int) : (allR T L).length ≤ 2 * L.length := by
  unfold allR
  induction L with
  | nil => simp
  | cons a L ih => rw [List.flatMap_cons, List.length_append, List.length_cons]; have := refs_len (eAt T a).1; omega
theorem ctN_le (x : Int) (L : List Int) : 0 ≤ ctN x L ∧ ctN x L ≤ L.length := by
  have := List.count_le_length (a := x) (l := L)
  unfold ctN; omega
theorem cl_snoc (ids R Q : List Int) (x : Int) : cl (ids ++ [x]) R Q = cl ids R Q ++ [(x, ctN x R, ctN x Q)] := by simp [cl]
/-! ### Sums -/
def sumC (ids R : List Int) : Int := (ids.map fun x => ctN x R).sum
theorem sumC_snoc (ids R : List Int) (x : Int) : sumC (ids ++ [x]) R = sumC ids R + ctN x R := by simp [sumC]
theorem sumC_cons_R (z : Int) (R : List Int) : ∀ ids : List Int, ids.Nodup → sumC ids (z :: R) = sumC ids R + (if z ∈ ids then 1 else 0)
  | [], _ => rfl
  | x :: ids, hn => by
    rw [List.nodup_cons] at hn
    have ih := sumC_cons_R z R ids hn.2
    have hc : ctN x (z :: R) = ctN x R + (if z = x then 1 else 0) := by
      unfold ctN
      rw [List.count_cons]
      by_cases h : z = x
      · rw [if_pos h]; simp [h]
      · rw [if_neg h]; simp [h]
    show ctN x (z :: R) + sumC ids (z :: R) = (ctN x R + sumC ids R) + _
    rw [ih, hc]
    by_cases h : z = x
    · rw [if_pos h, if_neg (fun h' => hn.1 (h ▸ h')), if_pos (by simp [h])]; omega
    · rw [if_neg h]
      by_cases h' : z ∈ ids
      · rw [if_pos h', if_pos (List.mem_cons_of_mem _ h')]; omega
      · rw [if_neg h', if_neg (by simp; exact ⟨h, h'⟩)]; omega
theorem sumC_nil (ids : List Int) : sumC ids [] = 0 := by
  induction ids with
  | nil => rfl
  | cons x ids ih => show ctN x [] + sumC ids [] = 0; rw [ih]; rfl
theorem sumC_le {ids : List Int} (hn : ids.Nodup) : ∀ R : List Int, 0 ≤ sumC ids R ∧ sumC ids R ≤ R.length
  | [] => by rw [sumC_nil]; simp
  | z :: R => by
    have := sumC_le hn R
    rw [sumC_cons_R z R ids hn]
    simp only [List.length_cons]
    split <;> omega
/-- the members of a list that are not 0 -/
def nzN (R : List Int) : Int := ((R.filter fun z => z != 0).length : Nat)
theorem sumC_all {ids : List Int} (hn : ids.Nodup) (h0 : (0 : Int) ∉ ids) : ∀ R : List Int, (∀ z ∈ R, z ≠ 0 → z ∈ ids) → sumC ids R = nzN R
  | [], _ => by rw [sumC_nil]; rfl
  | z :: R, h => by
    rw [sumC_cons_R z R ids hn, sumC_all hn h0 R fun y hy => h y (List.mem_cons_of_mem _ hy)]
    unfold nzN
    by_cases c : z = 0
    · subst c
      rw [if_neg h0]; simp
    · rw [if_pos (h z (by simp) c)]
      simp [c]
theorem nzN_le (R : List Int) : 0 ≤ nzN R ∧ nzN R ≤ R.length := by
  have := List.length_filter_le (fun z : Int => z != 0) R
  unfold nzN; omega
theorem nzN_snoc (R : List Int) (z : Int) : nzN (R ++ [z]) = nzN R + (if z = 0 then 0 else 1) := by
  unfold nzN
  rw [List.filter_append, List.length_append]
  by_cases c : z = 0
  · rw [if_pos c]; simp [c]
  · rw [if_neg c]; simp [c]
theorem nzN_all {R : List Int} (h : ∀ z ∈ R, z ≠ 0) : nzN R = R.length := by
  unfold nzN
  rw [List.filter_eq_self.2 fun z hz => by simpa using h z hz]

end Go.Proofs.YtnmgjpcooncjlaaGreat

/- law12: what a table of held rules answers: Hold, Release, Held, Roots, Live, Garbage. -/
set_option linter.unusedVariables false
set_option linter.unusedSimpArgs false
namespace Go.Proofs.YtnmgjpcooncjlaaGreat
open Go.Den

variable {w0 w : World} {Ω : List Ob} {most : Int} {T : List ET} {i j a b q r : Nat} {p : Addr} {m : yevergreenref12_Store.T} {mm : List (Int × (Ty.int .i64).T)}

/-- a table in memory: its cells, its map, its store -/
structure Tb (Ω : List Ob) (a b i q r : Nat) (p : Addr) (most : Int) (T : List ET) (mm : List (Int × (Ty.int .i64).T)) : Prop where
  ha : Ω[a]? = some (cel q [.pointer (some p), .map (some r)])
  hb : Ω[b]? = some (mc (.int .i64) r mm)
  hi : Ω[i]? = some (sto p most T)
theorem Tb.cons (t : Tb Ω a b i q r p most T mm) (o : Ob) : Tb (o :: Ω) (a + 1) (b + 1) (i + 1) q r p most T mm := ⟨t.ha, t.hb, t.hi⟩
/-- how often each rule is held -/
def opt (v : Int) : Option Int := if v = 0 then none else some v
theorem opt_zero {v : Int} (h : v = 0) : opt v = none := if_pos h
theorem opt_ne {v : Int} (h : v ≠ 0) : opt v = some v := if_neg h
def HeldF (mm : List (Int × (Ty.int .i64).T)) (c : Int → Int) : Prop := ∀ y, at? mm y = opt (c y)
theorem HeldF.get {c : Int → Int} (h : HeldF mm c) (y : Int) : (at? mm y).getD 0 = c y := by
  rw [h y]
  by_cases hc : c y = 0
  · rw [opt_zero hc, hc]; rfl
  · rw [opt_ne hc]; rfl
theorem HeldF.mem {c : Int → Int} (h : HeldF mm c) (y : Int) : y ∈ mm.map (·.1) ↔ c y ≠ 0 := by
  have h1 := at_none (m := mm) (x := y)
  rw [h y] at h1
  by_cases hc : c y = 0
  · rw [opt_zero hc] at h1
    exact ⟨fun hm => absurd hm (h1.1 rfl), fun h => absurd hc h⟩
  · rw [opt_ne hc] at h1
    refine ⟨fun _ => hc, fun _ => ?_⟩
    apply Classical.byContradiction
    intro hn
    have := h1.2 hn
    cases this

theorem Table_none_sp (t : Tb Ω a b i q r p most T mm) (s : Sp w0 Ω w) {K : Bool → World → Prop} (h : K false w) : C_collect_Table_none (some ⟨q, 0, none⟩) K w := by
  apply S_collect_Table_none
  unfold F_collect_Table_none
  exact gd_f rfl (nonNil_some (s.ldp (x := some p) a 0 t.ha rfl h))
theorem Table_none_nil {K : Bool → World → Prop} (h : K true w) : C_collect_Table_none none K w := by
  apply S_collect_Table_none
  unfold F_collect_Table_none
  exact gd_t rfl h

theorem Table_Hold_sp {id : Int} {c : Int → Int} (t : Tb Ω a b i q r p most T mm) (s : Sp w0 Ω w) (hc : HeldF mm c) (hcb : ∀ y, 0 ≤ c y ∧ c y ≤ 1000000000) {K : Value → World → Prop}
    (h1 : (0 ≤ id ∧ id ≤ (T.length : Int)) → ∀ mm' w', HeldF mm' (fun y => c y + if id ≠ 0 ∧ y = id then 1 else 0) → Sp w0 (Ω.set b (mc (.int .i64) r mm')) w' → K .nilIface w')
    (h2 : ¬ (0 ≤ id ∧ id ≤ (T.length : Int)) → ∀ w', Sp w0 Ω w' → K (errV 1) w') : C_collect_Table_Hold (some ⟨q, 0, none⟩) id K w := by
  apply S_collect_Table_Hold
  unfold F_collect_Table_Hold
  refine Table_none_sp t s (gd_f rfl (nonNil_some (s.ldp (x := some p) a 0 t.ha rfl (collect_known_sp s i t.hi ?_))))
  by_cases hk : 0 ≤ id ∧ id ≤ (T.length : Int)
  · rw [show known T id = true from decide_eq_true hk]
    refine gd_f rfl (JoinP.inl (gd_ne (fun c0 => ?_) (fun c0 => ?_)))
    · have hl := (s.mc_ b t.hb).get (by decide) eqII eqID zeroIN id
      rw [hc.get] at hl
      have := hcb id
      refine nonNil_some (s.ldm (x := some r) a 1 t.ha rfl ⟨c id, hl, arith_i64 (by omega) (by omega) (s.upC (vt := .int .i64) b t.hb (by decide) eqII eqID id (c id + 1) fun w4 s => ?_)⟩)
      intro _
      refine h1 hk _ _ (fun y => ?_) s
      dsimp only
      rw [at_mupd, hc y]
      by_cases hy : id = y
      · subst hy
        rw [if_pos rfl, if_pos ⟨c0, rfl⟩, opt_ne (by omega)]
      · rw [if_neg hy, if_neg (fun h => hy h.2.symm), Int.add_zero]
    · intro _
      refine h1 hk mm _ (fun y => ?_) (by rw [setSame t.hb]; exact s)
      dsimp only
      rw [if_neg (show ¬ (id ≠ 0 ∧ y = id) from fun h => h.1 c0), Int.add_zero]
      exact hc y
  · rw [show known T id = false from decide_eq_false hk]
    exact gd_t rfl (h2 hk _ s)
/-! ### Roots -/
theorem nodup_map_inj {α β : Type} {f : α → β} : ∀ {L : List α}, (L.map f).Nodup → ∀ {x y : α}, x ∈ L → y ∈ L → f x = f y → x = y
  | [], _, _, _, h, _, _ => by cases h
  | z :: L, hn, x, y, hx, hy, e => by
    rw [List.map_cons, List.nodup_cons] at hn
    rcases List.mem_cons.1 hx with h1 | h1 <;> rcases List.mem_cons.1 hy with h2 | h2
    · rw [h1, h2]
    · exact absurd (List.mem_map.2 ⟨y, h2, by rw [← e, h1]⟩) hn.1
    · exact absurd (List.mem_map.2 ⟨x, h1, by rw [e, h2]⟩) hn.1
    · exact nodup_map_inj hn.2 h1 h2 e
theorem nodup_len_le {α : Type} [DecidableEq α] : ∀ {L M : List α}, L.Nodup → (∀ x ∈ L, x ∈ M) → L.length ≤ M.length
  | [], _, _, _ => Nat.zero_le _
  | x :: L, M, hn, h => by
    rw [List.nodup_cons] at hn
    have hx := h x (by simp)
    have := nodup_len_le (L := L) (M := M.erase x) hn.2 fun y hy => by
      have hne : y ≠ x := fun e => hn.1 (e ▸ hy)
      exact (List.mem_erase_of_ne hne).2 (h y (List.mem_cons_of_mem _ hy))
    rw [List.length_erase_of_mem hx] at this
    have := List.length_pos_of_mem hx
    simp only [List.length_cons]; omega
theorem int_inj {x y : Int} (h : Value.int .i64 x = Value.int .i64 y) : x = y := by cases h; rfl
theorem mem_ints {x : Int} {ks : List Int} : Value.int .i64 x ∈ ks.map (Value.int .i64) ↔ x ∈ ks := by
  rw [List.mem_map]
  constructor
  · rintro ⟨y, hy, e⟩
    rw [← int_inj e]; exact hy
  · exact fun h => ⟨x, h, rfl⟩
theorem Told_.keyMap {arr : Array MapEntry} {clock : Nat} (t : Told_ (.int .i64) mm arr clock) : arr.toList.map (·.key) = (mm.map (·.1)).map (Value.int .i64) := by
  have := congrArg (List.map Prod.fst) t.eq
  simpa [PairOf, List.map_map, Function.comp_def] using this
theorem Told_.keyNodup {arr : Array MapEntry} {clock : Nat} (t : Told_ (.int .i64) mm arr clock) : (arr.toList.map (·.key)).Nodup := by
  rw [Told_.keyMap t]
  have : ∀ L : List Int, L.Nodup → (L.map (Value.int .i64)).Nodup := by
    intro L
    induction L with
    | nil => intro _; exact List.nodup_nil
    | cons x L ih =>
      intro h
      rw [List.nodup_cons] at h
      rw [List.map_cons, List.nodup_cons]
      exact ⟨fun hm => h.1 (mem_ints.1 hm), ih h.2⟩
  exact this _ t.keys
theorem Table_Roots_sp (t : Tb Ω a b i q r p most T mm) (s : Sp w0 Ω w) (hN : mm.length ≤ 2000000) {K : Sl → World → Prop}
    (h : ∀ sl (R : List (Ty.int .i64).T) w', R.Pairwise (fun x y => x < y) → (∀ x : Int, x ∈ R ↔ x ∈ mm.map (·.1)) → Sp w0 (own (.int .i64) sl R :: Ω) w' → K sl w') : C_collect_Table_Roots (some ⟨q, 0, none⟩) K w := by
  apply S_collect_Table_Roots
  unfold F_collect_Table_Roots
  refine Table_none_sp t s (gd_f rfl (nonNil_some (s.ldm (x := some r) a 1 t.ha rfl ⟨_, (s.mc_ b t.hb).len, by decide, by omega, by omega, by omega, ?_⟩)))
  refine s.mkS (.int .i64) (0 : Int) 0 mm.length (Nat.zero_le _) fun a5 w2 s => nonNil_some ?_
  refine s.ldm (x := some r) (a + 1) 1 t.ha rfl ?_
  obtain ⟨arr, clock, tt, s⟩ := Sp.tell s (b + 1) t.hb
  have hbl : b < Ω.length := (List.getElem?_eq_some_iff.1 t.hb).1
  have hmx : (Ω.set b (mx r arr clock))[b]? = some (mx r arr clock) := setGet t.hb
  have hback : (Ω.set b (mx r arr clock)).set b (mc (.int .i64) r mm) = Ω := by rw [List.set_set, setSame t.hb]
  refine s.rangeC (b + 1) hmx eqII fun rr w3 s => ?_
  have hsz : arr.size = mm.length := by
    have := congrArg List.length tt.eq
    simpa [PairOf] using this
  have s : Sp w0 (own (.int .i64) ⟨some ⟨a5, 0, none⟩, 0, mm.length⟩ [] :: itr rr r clock #[] :: Ω.set b (mx r arr clock)) w3 := s.pick [1, 0] 2 rfl (by decide)
  refine ⟨fun x w => ∃ (sel : List MapEntry) (ks : List (Ty.int .i64).T), (sel.map (·.born)).Nodup ∧ (∀ e ∈ sel, e ∈ arr.toList) ∧ sel.map (·.key) = ks.map (Value.int .i64) ∧ ks.Nodup ∧ Sp w0 (own (.int .i64) x.1 ks :: itr rr r clock (sel.map (·.born)).toArray :: Ω.set b (mx r arr clock)) w, fun x _ => mm.length - x.1.len, ⟨[], [], List.nodup_nil, by simp, rfl, List.nodup_nil, s⟩, ?_⟩
  clear s
  rintro ⟨sl, _⟩ w4 ⟨sel, ks, hsb, hsa, hsk, hkn, s⟩ _
  dsimp only at s ⊢
  have hsl := (s.view 0 rfl).len
  have hkl : sel.length = ks.length := by simpa using congrArg List.length hsk
  refine Sp.roundC tt s 1 (b + 2) rfl hmx (fun hall => ?_) (fun e k w5 he hen hek s => ?_)
  · refine slices_Sort_sp s 0 rfl ?_ fun w6 s => ?_
    · have hle := nodup_len_le (L := sel.map (·.born)) (M := arr.toList.map (·.born)) hsb fun x hx => by
        obtain ⟨e, he, rfl⟩ := List.mem_map.1 hx
        exact List.mem_map.2 ⟨e, hsa e he, rfl⟩
      simp only [List.length_map, Array.length_toList] at hle
      omega
    · have s2 : Sp w0 (own (.int .i64) sl (srt ks) :: itr rr r clock (sel.map (·.born)).toArray :: Ω.set b (mx r arr clock)) w6 := s
      have s3 := Sp.untell tt (s2.era 1) (b + 1) hmx
      have s4 : Sp w0 (own (.int .i64) sl (srt ks) :: (Ω.set b (mx r arr clock)).set b (mc (.int .i64) r mm)) w6 := s3
      rw [hback] at s4
      refine h sl _ _ (srt_lt hkn) (fun x => ?_) s4
      rw [(srt_perm ks).mem_iff, ← mem_ints (ks := ks), ← hsk, ← mem_ints (ks := mm.map (·.1)), ← Told_.keyMap tt]
      constructor
      · intro hx
        obtain ⟨e, he, hk⟩ := List.mem_map.1 hx
        exact List.mem_map.2 ⟨e, hsa e he, hk⟩
      · intro hx
        obtain ⟨e, he, hk⟩ := List.mem_map.1 hx
        have := hall e he
        rw [List.toList_toArray] at this
        obtain ⟨e', he', hb'⟩ := List.mem_map.1 this
        have : e' = e := nodup_map_inj tt.born (hsa e' he') he hb'
        subst this
        exact List.mem_map.2 ⟨e', he', hk⟩
  · have hnk : k ∉ ks := fun hm => by
      rw [← mem_ints, ← hsk] at hm
      obtain ⟨e', he', hk'⟩ := List.mem_map.1 hm
      have : e' = e := nodup_map_inj (Told_.keyNodup tt) (hsa e' he') he (hk'.trans hek.symm)
      subst this
      exact hen (by rw [List.toList_toArray]; exact List.mem_map.2 ⟨e', he', rfl⟩)
    have hsb' : ((sel ++ [e]).map (·.born)).Nodup := by
      rw [List.map_append, List.nodup_append]
      refine ⟨hsb, by simp, fun x hx y hy => ?_⟩
      simp at hy
      subst hy
      exact fun e' => hen (by rw [List.toList_toArray]; exact e' ▸ hx)
    have hle := nodup_len_le (L := (sel ++ [e]).map (·.born)) (M := arr.toList.map (·.born)) hsb' fun x hx => by
      obtain ⟨e', he', rfl⟩ := List.mem_map.1 hx
      rcases List.mem_append.1 he' with h | h
      · exact List.mem_map.2 ⟨e', hsa e' h, rfl⟩
      · simp at h; subst h; exact List.mem_map.2 ⟨e', he, rfl⟩
    simp only [List.length_map, List.length_append, List.length_cons, List.length_nil, Array.length_toList] at hle
    refine s.allocK fun a15 w7 s => s.app 1 rfl ((s.lit (ty := .int .i64) 0 rfl [k] 1 rfl rfl).view 0 rfl) (by simp only [List.length_cons, List.length_nil]; omega) fun s16 w8 s => ?_
    have s2 := s.pop
    have hl2 := (s2.view 0 rfl).len
    simp only [List.length_append, List.length_cons, List.length_nil] at hl2
    refine ⟨⟨sel ++ [e], ks ++ [k], hsb', fun e' he' => ?_, ?_, ?_, ?_⟩, ?_⟩
    · rcases List.mem_append.1 he' with h | h
      · exact hsa e' h
      · simp at h; subst h; exact he
    · rw [List.map_append, List.map_append, hsk]; simp [hek]
    · rw [List.nodup_append]
      exact ⟨hkn, by simp, fun x hx y hy => by simp at hy; subst hy; exact fun e => hnk (e ▸ hx)⟩
    · have e2 : ((sel ++ [e]).map (·.born)).toArray = (sel.map (·.born)).toArray.push e.born := by simp
      rw [e2]
      exact s2
    · omega

/-! ### Live, Garbage -/
theorem rlist_congr {S S' : List Int} (h : ∀ x, x ≠ 0 → (x ∈ S ↔ x ∈ S')) : rlist T S = rlist T S' := by
  refine sorted_unique rlist_sorted rlist_sorted fun x => ?_
  rw [mem_rlist, mem_rlist]
  have key : ∀ (A B : List Int), (∀ x, x ≠ 0 → (x ∈ A → x ∈ B)) → ∀ x, Rch T A x → Rch T B x := fun A B hAB x hx => by
    induction hx with
    | root h1 h2 => exact .root (hAB _ h2 h1) h2
    | ref _ h2 ih => exact .ref ih h2
  exact and_congr_right fun _ => ⟨key S S' (fun x h0 => (h x h0).1) x, key S' S (fun x h0 => (h x h0).2) x⟩
/-- the table holds what the list tells -/
structure TH (T : List ET) (mm : List (Int × (Ty.int .i64).T)) (held : List Int) : Prop where
  f : HeldF mm (fun y => ctN y held)
  nz : ∀ y ∈ held, 1 ≤ y ∧ y ≤ (T.length : Int)
  len : held.length ≤ 1000000
theorem TH.mem {held : List Int} (t : TH T mm held) (y : Int) : y ∈ mm.map (·.1) ↔ y ∈ held := by
  rw [t.f.mem y]
  unfold ctN
  rw [← List.count_pos_iff (a := y) (l := held)]
  omega
theorem TH.known {held : List Int} (t : TH T mm held) : Known_ T held := fun y hy => by have := t.nz y hy; omega
theorem Table_Live_sp {held : List Int} (t : Tb Ω a b i q r p most T mm) (th : TH T mm held) (s : Sp w0 Ω w) {K : Sl → World → Prop}
    (h : ∀ sl w', Sp w0 (own (.int .i64) sl (rlist T held) :: Ω) w' → K sl w') : C_collect_Table_Live (some ⟨q, 0, none⟩) K w := by
  apply S_collect_Table_Live
  unfold F_collect_Table_Live
  obtain ⟨_, _, _, hb0, hb1, hb2, hg⟩ := Sp.entry s i t.hi
  have hnd := (s.mc_ b t.hb).nodup
  have hml : mm.length ≤ T.length := by
    have := nodup_bound (L := mm.map (·.1)) (n := T.length) hnd fun x hx => th.nz x ((th.mem x).1 hx)
    simpa using this
  refine Table_none_sp t s (gd_f rfl (s.drawK fun w2 s => nonNil_some (s.ldp (x := some p) a 0 t.ha rfl (Table_Roots_sp t s (by omega) fun rl R w3 hR hRm s => ⟨s.still (a + 1) 0 t.ha rfl, ?_⟩))))
  have hRk : Known_ T R := fun x hx => by have := th.nz x ((th.mem x).1 ((hRm x).1 hx)); omega
  have hRl : R.length ≤ T.length := nodup_bound (L := R) (hR.imp fun {a b} (h : (a : Int) < b) => Int.ne_of_lt h) fun x hx => th.nz x ((th.mem x).1 ((hRm x).1 hx))
  refine collect_Reach_sp (S := R) s (i + 1) t.hi (fun w' s => s.view 0 rfl) (Nat.le_trans hRl (by omega)) (fun _ sl w4 s => ?_) (fun hn => absurd hRk hn)
  have e : rlist T R = rlist T held := rlist_congr fun x _ => by rw [hRm x, th.mem x]
  rw [e] at s
  exact nilIfc_nil (gd_f rfl (h sl _ (s.era 1)))
end Go.Proofs.YtnmgjpcooncjlaaGreat

/- The import of a list of rules, by the store and by the specification. -/
set_option linter.unusedVariables false
set_option linter.unusedSimpArgs false
namespace Go.Proofs.YtnmgjpcooncjlaaGreat
open Go.Den

variable {w0 w : World} {Ω : List Ob} {most : Int} {T : List ET} {i j : Nat}  {p : Addr}

def atI (ids : List (Ty.int .i64).T) (x : Int) : Int := ids.getD x.toNat (0 : Int)
def pPut (T : List ET) (most : Int) (ids : List (Ty.int .i64).T) (r : RT) : List ET × (Int × Value) :=
  if r.1 = 1 then pLetter T most r.2.1 else
  if r.1 = 2 then pPair T most (atI ids r.2.2.1) (atI ids r.2.2.2.1) else pPower T most (atI ids r.2.2.1) r.2.2.2.2
def pImps (T : List ET) (most : Int) : List RT → List (Ty.int .i64).T → List ET × (Int × Value)
  | [], ids => (T, (ids.getLastD (0 : Int), .nilIface))
  | r :: rs, ids => if isNilI (pPut T most ids r).2.2 then pImps (pPut T most ids r).1 most rs (ids ++ [(pPut T most ids r).2.1]) else ((pPut T most ids r).1, (0, (pPut T most ids r).2.2))
def bad : List RT → Int → Int
  | [], _ => 0
  | r :: rs, n => if chk r n = 0 then bad rs (n + 1) else chk r n
def pImport (T : List ET) (most : Int) (l : List RT) : List ET × (Int × Value) := if bad l 1 = 0 then pImps T most l [(0 : Int)] else (T, (0, errV (bad l 1)))

theorem bad_cons (r : RT) (rs : List RT) (n : Int) : bad (r :: rs) n = if chk r n = 0 then bad rs (n + 1) else chk r n := rfl
theorem pImps_cons (r : RT) (rs : List RT) (ids : List (Ty.int .i64).T) : pImps T most (r :: rs) ids = if isNilI (pPut T most ids r).2.2 then pImps (pPut T most ids r).1 most rs (ids ++ [(pPut T most ids r).2.1]) else ((pPut T most ids r).1, (0, (pPut T most ids r).2.2)) := rfl
theorem bad_zero : ∀ (l : List RT) (n : Int), bad l n = 0 → ∀ (i : Nat) (r : RT), l[i]? = some r → chk r (n + i) = 0
  | [], _, _, _, _, h => by simp at h
  | x :: l, n, h, 0, r, hr => by
    simp only [List.getElem?_cons_zero, Option.some.injEq] at hr
    subst hr
    rw [bad_cons] at h
    split at h
    · rename_i e; simpa using e
    · contradiction
  | x :: l, n, h, i + 1, r, hr => by
    rw [bad_cons] at h
    split at h
    · have := bad_zero l (n + 1) h i r (by simpa using hr)
      rw [← this]; congr 1; omega
    · contradiction
theorem chk_form {r : RT} {n : Int} (h : chk r n = 0) : formB r = true ∧ placeB r n = true := by
  unfold chk at h
  split at h
  · split at h
    · exact ⟨‹_›, ‹_›⟩
    · cases h
  · cases h
theorem form_kind {r : RT} (h : formB r = true) : r.1 = 1 ∨ r.1 = 2 ∨ r.1 = 3 := by
  unfold formB at h
  split at h
  · exact Or.inl ‹_›
  split at h
  · exact Or.inr (Or.inl ‹_›)
  split at h
  · exact Or.inr (Or.inr ‹_›)
  · cases h
theorem pPut_err {ids : List (Ty.int .i64).T} {r : RT} : IsErr (pPut T most ids r).2.2 := by
  unfold pPut
  split
  · exact pLetter_err
  split
  · exact pPair_err
  · exact pPower_err
theorem pPut_grow {ids : List (Ty.int .i64).T} {r : RT} (g : Grow T) (hl : (T.length : Int) ≤ most) (hb : 0 ≤ r.2.1 ∧ r.2.1 < 256) : Grow (pPut T most ids r).1 ∧ ((pPut T most ids r).1.length : Int) ≤ most := by
  unfold pPut
  split
  · exact pLetter_grow g hl hb
  split
  · exact pPair_grow g hl
  · exact pPower_grow g hl
theorem atI_get {ids : List (Ty.int .i64).T} {x : Int} (h0 : 0 ≤ x) (h : x < ids.length) : ids[x.toNat]? = some (atI ids x) := by
  unfold atI
  rw [List.getD_eq_getElem?_getD, List.getElem?_eq_getElem (by omega)]
  rfl
theorem atI_append {ids zs : List (Ty.int .i64).T} {x : Int} (h0 : 0 ≤ x) (h : x < ids.length) : atI (ids ++ zs) x = atI ids x := by
  unfold atI
  rw [List.getD_eq_getElem?_getD, List.getD_eq_getElem?_getD, List.getElem?_append_left (by omega)]
theorem pPut_append {ids zs : List (Ty.int .i64).T} {r : RT} {n : Int} (hp : placeB r n = true) (hn : n ≤ ids.length) (hk : r.1 = 1 ∨ r.1 = 2 ∨ r.1 = 3) : pPut T most (ids ++ zs) r = pPut T most ids r := by
  unfold pPut
  rcases hk with h | h | h
  · simp [h]
  · rw [placeB_2 h, decide_eq_true_eq] at hp
    rw [atI_append (by omega) (by omega), atI_append (by omega) (by omega)]
  · rw [placeB_3 h, decide_eq_true_eq] at hp
    simp only [h]
    rw [if_neg (by decide), if_neg (by decide), if_neg (by decide), if_neg (by decide), atI_append (by omega) (by omega)]

theorem intern_put_sp {r : RT} {to : Sl} {ids : List (Ty.int .i64).T} {n : Int} (hr : 0 ≤ r.2.1 ∧ r.2.1 < 256) (ht : r.2.2.2.2 ≤ 9223372036854775807) (hk : r.1 = 1 ∨ r.1 = 2 ∨ r.1 = 3) (hp : placeB r n = true) (hn : n ≤ ids.length)
    (s : Sp w0 Ω w) (i : Nat) (hi : Ω[i]? = some (sto p most T)) (j : Nat) (hj : Ω[j]? = some (own (.int .i64) to ids)) {K : Int × Value → World → Prop}
    (h : ∀ w', Sp w0 (Ω.set i (sto p most (pPut T most ids r).1)) w' → K (pPut T most ids r).2 w') : C_intern_Store_put (some p) r to K w := by
  apply S_intern_Store_put
  unfold F_intern_Store_put
  unfold pPut at h
  refine s.allocK fun a1 w1 s => s.ldi (x := r.1) 0 0 rfl rfl (gd_eq (fun c1 => ?_) (fun c1 => gd_eq (fun c2 => ?_) (fun c2 => ?_)))
  · simp only [if_pos c1] at h
    exact s.ldi (x := r.2.1) 0 1 rfl rfl (intern_Letter_sp s (i + 1) hi hr fun w2 s => h _ s.pop)
  · simp only [if_neg c1, if_pos c2] at h
    rw [placeB_2 c2, decide_eq_true_eq] at hp
    refine s.drawK fun w2 s => s.ldi (x := r.2.2.1) 0 2 rfl rfl ((s.view (j + 1) hj).idx (n := r.2.2.1.toNat) (by omega) (atI_get (by omega) (by omega)) rfl fun q hq => ⟨_, hq, s.ldi (x := r.2.2.2.1) 0 3 rfl rfl ?_⟩)
    exact (s.view (j + 1) hj).idx (n := r.2.2.2.1.toNat) (by omega) (atI_get (by omega) (by omega)) rfl fun q hq => ⟨_, hq, intern_Pair_sp s (i + 1) hi fun w3 s => h _ s.pop⟩
  · simp only [if_neg c1, if_neg c2] at h
    have c3 : r.1 = 3 := by omega
    rw [placeB_3 c3, decide_eq_true_eq] at hp
    exact s.drawK fun w2 s => s.ldi (x := r.2.2.1) 0 2 rfl rfl ((s.view (j + 1) hj).idx (n := r.2.2.1.toNat) (by omega) (atI_get (by omega) (by omega)) rfl fun q hq => ⟨_, hq, s.ldi (x := r.2.2.2.2) 0 4 rfl rfl (intern_Power_sp s (i + 1) hi ht fun w3 s => h _ s.pop)⟩)

structure RuleOK (r : RT) : Prop where
  b : 0 ≤ r.2.1 ∧ r.2.1 < 256
  k : r.2.2.2.2 ≤ 9223372036854775807
theorem chkV_zero {r : RT} {n : Int} (h : chk r n = 0) : chkV r n = .nilIface := by unfold chkV; rw [if_pos h]
theorem chkV_bad {r : RT} {n : Int} (h : ¬ chk r n = 0) : chkV r n = errV (chk r n) := by unfold chkV; rw [if_neg h]

theorem intern_Import_sp {sl : Sl} {l : List yapi_Rule.T} (hr : ∀ r ∈ l, RuleOK r) (hll : l.length ≤ 2000000) (s : Sp w0 Ω w) (i : Nat) (hi : Ω[i]? = some (sto p most T)) (hv : ∀ w' Ω', Sp w0 (Ω' ++ Ω) w' → View yapi_Rule w' sl l) (hv2 : ∀ w' Ω' T', Sp w0 (Ω' ++ Ω.set i (sto p most T')) w' → View yapi_Rule w' sl l)
    {K : Int × Value → World → Prop} (h : ∀ w', Sp w0 (Ω.set i (sto p most (pImport T most l).1)) w' → K (pImport T most l).2 w') : C_intern_Store_Import (some p) sl K w := by
  apply S_intern_Store_Import
  unfold F_intern_Store_Import
  have hlen := (hv w [] s).len
  have hset : Ω.set i (sto p most T) = Ω := setSame hi
  refine gd_f rfl (loop_by (fun x => x.1) l.length (fun n _ w => bad l 1 = bad (l.drop n) ((n : Int) + 1) ∧ Sp w0 Ω w) rfl ⟨by simp, s⟩ ?_)
  rintro n ⟨x, _⟩ w1 hn hx ⟨hb, s⟩ _
  dsimp only at hx ⊢
  subst hx
  refine gd_dec (fun hlt => ?_) (fun hge => ?_)
  · have hn' : n < l.length := by omega
    have hd : l.drop n = l[n] :: l.drop (n + 1) := List.drop_eq_getElem_cons hn'
    refine (hv w1 [] s).idx rfl (List.getElem?_eq_getElem hn') rfl fun q hq => ⟨_, hq, s.allocK fun a5 w2 s => s.st0 0 rfl rfl rfl fun w3 s => s.ld0 0 rfl rfl (arith_i64 (by omega) (by omega) (rule_Check_spec (by omega) s fun w4 s => ?_))⟩
    rw [hd, bad_cons] at hb
    by_cases c : chk l[n] ((n : Int) + 1) = 0
    · rw [chkV_zero c]
      rw [if_pos c] at hb
      exact nilIfc_nil (gd_f rfl (arith_i64 (by omega) (by omega) (loop_nx hn' ⟨by rw [hb]; congr 1, s.pop⟩)))
    · rw [chkV_bad c]
      rw [if_neg c] at hb
      have hne : ¬ bad l 1 = 0 := by rw [hb]; exact c
      have hp : pImport T most l = (T, (0, errV (chk l[n] ((n : Int) + 1)))) := by unfold pImport; rw [if_neg hne, hb]
      rw [hp, hset] at h
      exact nilIfc_err (gd_t rfl (h _ s.pop))
  · have hn' : n = l.length := by omega
    subst hn'
    rw [List.drop_length] at hb
    have hb0 : bad l 1 = 0 := hb
    have hp : pImport T most l = pImps T most l [(0 : Int)] := by unfold pImport; rw [if_pos hb0]
    rw [hp] at h
    have hN : ((sl.len : Int) + 1).toNat = l.length + 1 := by omega
    refine arith_i64 (by omega) (by omega) ⟨by omega, by omega, by omega, by omega, s.mkS (.int .i64) (0 : Int) (l.length + 1) (l.length + 1) (Nat.le_refl _) (fun a12 w5 s => ?_) rfl (by rw [hN]; rfl)⟩
    rw [hN]
    obtain ⟨_, _, _, hm0, hm1, hm2, hg⟩ := Sp.entry s (i + 1) hi
    refine loop_by (fun x => x.1) l.length (fun n _ w => ∃ (T' : List ET) (ids : List (Ty.int .i64).T), pImps T most l [(0 : Int)] = pImps T' most (l.drop n) ids ∧ ids.length = n + 1 ∧
      Sp w0 (own (.int .i64) ⟨some ⟨a12, 0, none⟩, l.length + 1, l.length + 1⟩ (ids ++ List.replicate (l.length - n) (0 : Int)) :: Ω.set i (sto p most T')) w) rfl ⟨T, [(0 : Int)], by simp, rfl, by
        have e : [(0 : Int)] ++ List.replicate (l.length - 0) (0 : Int) = List.replicate (l.length + 1) (0 : Int) := by simp [List.replicate_succ]
        rw [hset]; exact e ▸ s⟩ ?_
    rintro n ⟨x, _⟩ w6 hn hx ⟨T', ids, hI, hil, s⟩ _
    dsimp only at hx ⊢
    subst hx
    have hi' : ∀ X, (Ω.set i X)[i]? = some X := fun X => setGet hi
    obtain ⟨_, _, _, hm0, hm1, hm2, hg⟩ := Sp.entry s (i + 1) (hi' _)
    refine gd_dec (fun hlt => ?_) (fun hge => ?_)
    · have hn' : n < l.length := by omega
      have hd : l.drop n = l[n] :: l.drop (n + 1) := List.drop_eq_getElem_cons hn'
      have hok := hr _ (List.getElem_mem hn')
      have hc : chk l[n] ((n : Int) + 1) = 0 := by
        have := bad_zero l 1 hb0 n l[n] (List.getElem?_eq_getElem hn')
        rw [← this]; congr 1; omega
      obtain ⟨hf, hpl⟩ := chk_form hc
      have hkind := form_kind hf
      refine (hv2 w6 [_] _ s).idx rfl (List.getElem?_eq_getElem hn') rfl fun q hq => ⟨_, hq, s.allocK fun a5 w2 s => s.st0 0 rfl rfl rfl fun w3 s => s.ld0 0 rfl rfl ?_⟩
      refine intern_put_sp hok.b hok.k hkind hpl (by simp; omega) s (i + 2) (hi' _) 1 rfl fun w7 s => ?_
      rw [pPut_append hpl (by omega) hkind] at s ⊢
      rw [hd, pImps_cons] at hI
      rcases isNilI_err (pPut_err (T := T') (most := most) (ids := ids) (r := l[n])) with ⟨e1, _, e2⟩ | ⟨e1, _, c, e2⟩
      · rw [e1, if_pos rfl] at hI
        rw [e2]
        refine nilIfc_nil (gd_f rfl (arith_i64 (by omega) (by omega) (s.setI 1 rfl (n := n + 1) rfl (by simp; omega) fun w8 s => arith_i64 (by omega) (by omega) (loop_nx hn' ⟨_, _, hI, by simp [hil], ?_⟩))))
        have e : (ids ++ List.replicate (l.length - n) (0 : Int)).set (n + 1) (pPut T' most ids l[n]).2.1 = (ids ++ [(pPut T' most ids l[n]).2.1]) ++ List.replicate (l.length - (n + 1)) (0 : Int) := by
          rw [List.set_append_right _ _ (by omega), hil, Nat.sub_self]
          rw [show l.length - n = (l.length - (n + 1)) + 1 by omega, List.replicate_succ]
          simp
        have s' : Sp w0 (own (.int .i64) ⟨some ⟨a12, 0, none⟩, l.length + 1, l.length + 1⟩ _ :: (Ω.set i (sto p most T')).set i (sto p most (pPut T' most ids l[n]).1)) w8 := s.pop
        rw [List.set_set] at s'
        exact e ▸ s'
      · rw [e1, if_neg (by decide)] at hI
        rw [e2]
        rw [hI] at h
        have s' : Sp w0 ((Ω.set i (sto p most T')).set i (sto p most (pPut T' most ids l[n]).1)) w7 := s.drop 2
        rw [List.set_set] at s'
        have := h _ s'
        dsimp only at this
        rw [e2] at this
        exact nilIfc_err (gd_t rfl this)
    · have hn' : n = l.length := by omega
      subst hn'
      rw [List.drop_length] at hI
      rw [hI] at h
      rw [Nat.sub_self, List.replicate_zero, List.append_nil] at s
      have hlast : ids[l.length]? = some (ids.getLastD (0 : Int)) := by
        rw [List.getLastD_eq_getLast?, List.getLast?_eq_getElem?, hil]
        simp only [Nat.add_sub_cancel]
        rw [List.getElem?_eq_getElem (by omega)]
        rfl
      refine (s.view 0 rfl).idx (n := l.length) (by omega) hlast rfl fun q hq => ⟨_, hq, h _ s.pop⟩

end Go.Proofs.YtnmgjpcooncjlaaGreat

/- What is exported and imported again: into the same store nothing is added; into an empty one a copy. -/
set_option linter.unusedVariables false
set_option linter.unusedSimpArgs false
namespace Go.Proofs.YtnmgjpcooncjlaaGreat
open Go.Den

variable {T : List ET} {ids : List Int} {most : Int}

theorem Closed.nz (hc : Closed T ids) : (0 : Int) ∉ ids := fun h => by have := (hc.bound 0 h).1; omega
theorem pos_zero (hc : Closed T ids) : pos ids 0 = 0 := pos_none hc.nz
/-- the references of a rule of the list, and their places -/
theorem Closed.ref (hc : Closed T ids) (g : Grow T) {k : Nat} {y x : Int} (hk : ids[k]? = some y) (hx : x ∈ YtnmgjpcooncjlaaGreat.refs (eAt T y).1) : ∃ j, j < k ∧ ids[j]? = some x ∧ pos ids x = (j : Int) + 1 := by
  have hyb := hc.bound y (List.mem_of_getElem? hk)
  have hxm := hc.refs y (List.mem_of_getElem? hk) x hx
  obtain ⟨j, hj⟩ := List.getElem?_of_mem hxm
  have hlt := (refs_in g hyb.1 hyb.2 hx).2
  exact ⟨j, (sorted_lt hc.sorted hj hk).1 hlt, hj, pos_some hc.nodup hj⟩
theorem exp_get {k : Nat} {y : Int} (hk : ids[k]? = some y) : (exp T ids)[k]? = some (mvr ids (eAt T y).1) := by
  unfold exp; rw [List.getElem?_map, hk]; rfl
theorem chk_exp (g : Grow T) (hc : Closed T ids) {k : Nat} {y : Int} (hk : ids[k]? = some y) : chk (mvr ids (eAt T y).1) ((k : Int) + 1) = 0 := by
  have hyb := hc.bound y (List.mem_of_getElem? hk)
  have p0 := pos_zero hc
  have hf : formB (mvr ids (eAt T y).1) = true ∧ placeB (mvr ids (eAt T y).1) ((k : Int) + 1) = true := by
    cases g.shape hyb.1 hyb.2 with
    | letter b _ _ e =>
      rw [e]
      refine ⟨by simp [formB, mvr, mkLetter, p0], ?_⟩
      rw [placeB_1 (by rfl)]; simp; omega
    | pair l r _ _ _ _ _ e =>
      obtain ⟨j1, h1, _, e1⟩ := hc.ref g hk (x := l) (by rw [e]; simp [refs, mkPair])
      obtain ⟨j2, h2, _, e2⟩ := hc.ref g hk (x := r) (by rw [e]; simp [refs, mkPair])
      rw [e]
      refine ⟨by simp [formB, mvr, mkPair], ?_⟩
      rw [placeB_2 (by rfl)]
      simp only [mvr, mkPair, decide_eq_true_eq, e1, e2]; omega
    | power x n _ _ hn _ e =>
      obtain ⟨j1, h1, _, e1⟩ := hc.ref g hk (x := x) (by rw [e]; simp [refs, mkPower])
      rw [e]
      refine ⟨by simp [formB, mvr, mkPower, p0, hn], ?_⟩
      rw [placeB_3 (by rfl)]
      simp only [mvr, mkPower, decide_eq_true_eq, e1]; omega
  unfold chk
  rw [hf.1, if_pos rfl, hf.2, if_pos rfl]
theorem bad_of : ∀ (l : List RT) (n : Int), (∀ (i : Nat) (r : RT), l[i]? = some r → chk r (n + i) = 0) → bad l n = 0
  | [], _, _ => rfl
  | r :: l, n, h => by
    rw [bad_cons, if_pos (by have := h 0 r rfl; simpa using this)]
    refine bad_of l (n + 1) fun i x hi => ?_
    have := h (i + 1) x (by simpa using hi)
    rw [← this]; congr 1; omega
theorem bad_exp (g : Grow T) (hc : Closed T ids) : bad (exp T ids) 1 = 0 := by
  refine bad_of _ _ fun i r hi => ?_
  obtain ⟨y, hy⟩ : ∃ y, ids[i]? = some y := by
    have := (List.getElem?_eq_some_iff.1 hi).1
    rw [exp_len] at this
    exact ⟨_, List.getElem?_eq_getElem this⟩
  rw [exp_get hy] at hi
  cases hi
  have := chk_exp g hc hy
  rw [← this]; congr 1; omega

/-! ### Into the same store -/
theorem pPut_same (g : Grow T) (hc : Closed T ids) {k : Nat} {y : Int} (hk : ids[k]? = some y) : pPut T most ((0 : Int) :: ids.take k) (mvr ids (eAt T y).1) = (T, (y, .nilIface)) := by
  have hyb := hc.bound y (List.mem_of_getElem? hk)
  have hfind := g.find hyb.1 hyb.2
  have hat : ∀ {x : Int} {j : Nat}, j < k → ids[j]? = some x → atI ((0 : Int) :: ids.take k) ((j : Int) + 1) = x := by
    intro x j hj hx
    unfold atI
    rw [show ((j : Int) + 1).toNat = j + 1 by omega, List.getD_eq_getElem?_getD, List.getElem?_cons_succ, List.getElem?_take_of_lt hj, hx]; rfl
  unfold pPut
  cases g.shape hyb.1 hyb.2 with
  | letter b _ _ e =>
    rw [e] at hfind ⊢
    rw [if_pos (by rfl)]
    exact (pAdd_some (most := most) (e := mkLetter b) hfind).2.1
  | pair l r a1 a2 a3 a4 a5 e =>
    obtain ⟨j1, h1, g1, e1⟩ := hc.ref g hk (x := l) (by rw [e]; simp [refs, mkPair])
    obtain ⟨j2, h2, g2, e2⟩ := hc.ref g hk (x := r) (by rw [e]; simp [refs, mkPair])
    rw [e] at hfind ⊢
    rw [if_neg (by simp [mvr, mkPair]), if_pos (by rfl)]
    have q1 : atI ((0 : Int) :: ids.take k) (mvr ids (mkPair T l r).1).2.2.1 = l := by
      show atI _ (pos ids l) = l
      rw [e1]; exact hat h1 g1
    have q2 : atI ((0 : Int) :: ids.take k) (mvr ids (mkPair T l r).1).2.2.2.1 = r := by
      show atI _ (pos ids r) = r
      rw [e2]; exact hat h2 g2
    rw [q1, q2]
    unfold pPair
    have kl : known T l = true := decide_eq_true (by omega)
    have kr : known T r = true := decide_eq_true (by omega)
    rw [kl, kr, if_neg (by simp), if_neg (by omega), if_neg (by omega), if_neg (by omega)]
    exact (pAdd_some (most := most) (e := mkPair T l r) hfind).2.1
  | power x n a1 a2 a3 a4 e =>
    obtain ⟨j1, h1, g1, e1⟩ := hc.ref g hk (x := x) (by rw [e]; simp [refs, mkPower])
    rw [e] at hfind ⊢
    rw [if_neg (by simp [mvr, mkPower]), if_neg (by simp [mvr, mkPower])]
    have q1 : atI ((0 : Int) :: ids.take k) (mvr ids (mkPower T x n).1).2.2.1 = x := by
      show atI _ (pos ids x) = x
      rw [e1]; exact hat h1 g1
    rw [q1]
    show pPower T most x n = _
    unfold pPower
    have kx : known T x = true := decide_eq_true (by omega)
    rw [kx, if_neg (by simp; omega), if_neg (by omega), if_neg (by omega), if_neg (by omega)]
    exact (pAdd_some (most := most) (e := mkPower T x n) hfind).2.1
theorem pImps_same (g : Grow T) (hc : Closed T ids) : ∀ (d k : Nat), k + d = ids.length → pImps T most ((exp T ids).drop k) ((0 : Int) :: ids.take k) = (T, (((0 : Int) :: ids).getLastD 0, .nilIface))
  | 0, k, hk => by
    have : k = ids.length := by omega
    subst this
    rw [show (exp T ids).drop ids.length = [] by rw [← exp_len T ids, List.drop_length], List.take_length]
    rfl
  | d + 1, k, hk => by
    have hkl : k < ids.length := by omega
    obtain ⟨y, hy⟩ : ∃ y, ids[k]? = some y := ⟨_, List.getElem?_eq_getElem hkl⟩
    have hd : (exp T ids).drop k = mvr ids (eAt T y).1 :: (exp T ids).drop (k + 1) := by
      have h := exp_get (T := T) hy
      have hl := (List.getElem?_eq_some_iff.1 h).1
      rw [List.drop_eq_getElem_cons hl, (List.getElem?_eq_some_iff.1 h).2]
    rw [hd, pImps_cons, pPut_same g hc hy, if_pos (by rfl)]
    have ht : (0 : Int) :: ids.take k ++ [y] = (0 : Int) :: ids.take (k + 1) := by rw [List.take_add_one, hy]; rfl
    show pImps T most _ ((0 : Int) :: ids.take k ++ [y]) = _
    rw [ht]
    exact pImps_same g hc d (k + 1) (by omega)
theorem pImport_same (g : Grow T) (hc : Closed T ids) : pImport T most (exp T ids) = (T, (((0 : Int) :: ids).getLastD 0, .nilIface)) := by
  unfold pImport
  rw [if_pos (bad_exp g hc)]
  have := pImps_same (most := most) g hc ids.length 0 (by omega)
  simpa using this

/-! ### Into an empty store -/
def copy (T : List ET) (ids : List Int) : List ET := ids.map fun x => (mvr ids (eAt T x).1, (eAt T x).2)
theorem copy_len : (copy T ids).length = ids.length := List.length_map _
theorem copy_get {k : Nat} {y : Int} (hk : ids[k]? = some y) : (copy T ids)[k]? = some (mvr ids (eAt T y).1, (eAt T y).2) := by
  unfold copy; rw [List.getElem?_map, hk]; rfl
theorem copy_at {k m : Nat} {y : Int} (hk : ids[k]? = some y) (hm : k < m) : eAt ((copy T ids).take m) ((k : Int) + 1) = (mvr ids (eAt T y).1, (eAt T y).2) := by
  have hkl := (List.getElem?_eq_some_iff.1 hk).1
  have h := eAt_get (L := (copy T ids).take m) (id := (k : Int) + 1) (by omega) (by rw [List.length_take, copy_len]; omega)
  rw [show ((k : Int) + 1 - 1).toNat = k by omega, List.getElem?_take_of_lt hm, copy_get hk] at h
  exact (Option.some.inj h).symm
theorem pos_inj (hc : Closed T ids) {x y : Int} (hx : x = 0 ∨ x ∈ ids) (hy : y = 0 ∨ y ∈ ids) (h : pos ids x = pos ids y) : x = y := by
  have key : ∀ {x : Int}, x ∈ ids → ∃ j : Nat, ids[j]? = some x ∧ pos ids x = (j : Int) + 1 := fun hx => by
    obtain ⟨j, hj⟩ := List.getElem?_of_mem hx
    exact ⟨j, hj, pos_some hc.nodup hj⟩
  have p0 := pos_zero hc
  rcases hx with rfl | hx
  · rcases hy with rfl | hy
    · rfl
    · obtain ⟨j, _, e⟩ := key hy
      rw [p0, e] at h; omega
  · obtain ⟨i, hi, ei⟩ := key hx
    rcases hy with rfl | hy
    · rw [p0, ei] at h; omega
    · obtain ⟨j, hj, e⟩ := key hy
      rw [ei, e] at h
      have : i = j := by omega
      subst this
      rw [hi] at hj
      exact Option.some.inj hj
theorem refs_mem (g : Grow T) (hc : Closed T ids) {y : Int} (hy : y ∈ ids) : ((eAt T y).1.2.2.1 = 0 ∨ (eAt T y).1.2.2.1 ∈ ids) ∧ ((eAt T y).1.2.2.2.1 = 0 ∨ (eAt T y).1.2.2.2.1 ∈ ids) := by
  have hyb := hc.bound y hy
  have hr := hc.refs y hy
  cases g.shape hyb.1 hyb.2 with
  | letter b _ _ e => rw [e]; exact ⟨Or.inl rfl, Or.inl rfl⟩
  | pair l r _ _ _ _ _ e =>
    rw [e] at hr ⊢
    exact ⟨Or.inr (hr l (by simp [refs, mkPair])), Or.inr (hr r (by simp [refs, mkPair]))⟩
  | power x k _ _ _ _ e =>
    rw [e] at hr ⊢
    exact ⟨Or.inr (hr x (by simp [refs, mkPower])), Or.inl rfl⟩
theorem mvr_inj (g : Grow T) (hc : Closed T ids) {x y : Int} (hx : x ∈ ids) (hy : y ∈ ids) (h : mvr ids (eAt T x).1 = mvr ids (eAt T y).1) : x = y := by
  have hxb := hc.bound x hx
  have hyb := hc.bound y hy
  have rx := refs_mem g hc hx
  have ry := refs_mem g hc hy
  have f1 := g.find hxb.1 hxb.2
  have f2 := g.find hyb.1 hyb.2
  have e : (eAt T x).1 = (eAt T y).1 := by
    generalize (eAt T x).1 = a at h rx
    generalize (eAt T y).1 = b at h ry
    simp only [mvr, Prod.mk.injEq] at h
    obtain ⟨h1, h2, h3, h4, h5⟩ := h
    exact Prod.ext h1 (Prod.ext h2 (Prod.ext (pos_inj hc rx.1 ry.1 h3) (Prod.ext (pos_inj hc rx.2 ry.2 h4) h5)))
  rw [e, f2] at f1
  exact (Option.some.inj f1).symm
theorem copy_fresh (g : Grow T) (hc : Closed T ids) {k : Nat} {y : Int} (hk : ids[k]? = some y) : lkR ((copy T ids).take k) (mvr ids (eAt T y).1) = none := by
  refine lkR_none fun e he h => ?_
  obtain ⟨j, hj⟩ := List.getElem?_of_mem he
  have hjk : j < k := by
    have := (List.getElem?_eq_some_iff.1 hj).1
    rw [List.length_take] at this; omega
  have hkl := (List.getElem?_eq_some_iff.1 hk).1
  rw [List.getElem?_take_of_lt hjk] at hj
  obtain ⟨x, hx⟩ : ∃ x, ids[j]? = some x := ⟨_, List.getElem?_eq_getElem (by omega)⟩
  rw [copy_get hx] at hj
  cases hj
  have := mvr_inj g hc (List.mem_of_getElem? hx) (List.mem_of_getElem? hk) h
  have := (sorted_lt hc.sorted hx hk).2 hjk
  omega
def ups (k : Nat) : List Int := (List.range (k + 1)).map fun i : Nat => (i : Int)
theorem ups_succ (k : Nat) : ups (k + 1) = ups k ++ [((k : Int) + 1)] := by
  unfold ups
  rw [List.range_succ, List.map_append]; rfl
theorem ups_at {k j : Nat} (h : j ≤ k) : atI (ups k) (j : Int) = j := by
  unfold atI ups
  rw [List.getD_eq_getElem?_getD, List.getElem?_map, List.getElem?_range (by omega)]; simp
theorem pPut_copy (g : Grow T) (hc : Closed T ids) {k : Nat} {y : Int} (hk : ids[k]? = some y) (hm : (k : Int) < most) : pPut ((copy T ids).take k) most (ups k) (mvr ids (eAt T y).1) = ((copy T ids).take (k + 1), ((k : Int) + 1, .nilIface)) := by
  have hyb := hc.bound y (List.mem_of_getElem? hk)
  have hkl := (List.getElem?_eq_some_iff.1 hk).1
  have hfr := copy_fresh g hc hk
  have hlen : ((copy T ids).take k).length = k := by rw [List.length_take, copy_len]; omega
  have hstep : (copy T ids).take (k + 1) = (copy T ids).take k ++ [(mvr ids (eAt T y).1, (eAt T y).2)] := by rw [List.take_add_one, copy_get hk]; rfl
  have p0 := pos_zero hc
  have fin : ∀ e : ET, e = (mvr ids (eAt T y).1, (eAt T y).2) → pAdd ((copy T ids).take k) most e = ((copy T ids).take (k + 1), ((k : Int) + 1, .nilIface)) := by
    rintro e rfl
    rw [(pAdd_new (most := most) (e := (mvr ids (eAt T y).1, (eAt T y).2)) hfr (by rw [hlen]; omega)).2, ← hstep, hlen]
  unfold pPut
  cases g.shape hyb.1 hyb.2 with
  | letter b _ _ e =>
    rw [e] at fin ⊢
    rw [if_pos (by rfl)]
    refine fin (mkLetter b) ?_
    simp [mvr, mkLetter, p0]
  | pair l r a1 a2 a3 a4 a5 e =>
    obtain ⟨j1, h1, g1, e1⟩ := hc.ref g hk (x := l) (by rw [e]; simp [refs, mkPair])
    obtain ⟨j2, h2, g2, e2⟩ := hc.ref g hk (x := r) (by rw [e]; simp [refs, mkPair])
    rw [e] at fin ⊢
    rw [if_neg (by simp [mvr, mkPair]), if_pos (by rfl)]
    have q1 : atI (ups k) (mvr ids (mkPair T l r).1).2.2.1 = (j1 : Int) + 1 := by
      show atI _ (pos ids l) = _
      rw [e1]; exact ups_at (j := j1 + 1) (by omega)
    have q2 : atI (ups k) (mvr ids (mkPair T l r).1).2.2.2.1 = (j2 : Int) + 1 := by
      show atI _ (pos ids r) = _
      rw [e2]; exact ups_at (j := j2 + 1) (by omega)
    have w1 := copy_at (T := T) g1 h1
    have w2 := copy_at (T := T) g2 h2
    rw [q1, q2]
    unfold pPair
    have kl : known ((copy T ids).take k) ((j1 : Int) + 1) = true := decide_eq_true (by rw [hlen]; omega)
    have kr : known ((copy T ids).take k) ((j2 : Int) + 1) = true := decide_eq_true (by rw [hlen]; omega)
    rw [kl, kr, if_neg (by simp), if_neg (by omega), if_neg (by omega), w1, w2, if_neg (by simp only; omega)]
    refine fin _ ?_
    unfold mkPair
    rw [w1, w2]
    simp only [mvr, e1, e2]
  | power x n a1 a2 a3 a4 e =>
    obtain ⟨j1, h1, g1, e1⟩ := hc.ref g hk (x := x) (by rw [e]; simp [refs, mkPower])
    rw [e] at fin ⊢
    rw [if_neg (by simp [mvr, mkPower]), if_neg (by simp [mvr, mkPower])]
    have q1 : atI (ups k) (mvr ids (mkPower T x n).1).2.2.1 = (j1 : Int) + 1 := by
      show atI _ (pos ids x) = _
      rw [e1]; exact ups_at (j := j1 + 1) (by omega)
    have w1 := copy_at (T := T) g1 h1
    rw [q1]
    show pPower _ most _ n = _
    unfold pPower
    have kx : known ((copy T ids).take k) ((j1 : Int) + 1) = true := decide_eq_true (by rw [hlen]; omega)
    rw [kx, if_neg (by simp; omega), if_neg (by omega), if_neg (by omega), w1, if_neg (by simp only; omega)]
    refine fin _ ?_
    unfold mkPower
    rw [w1]
    simp only [mvr, e1, p0]
theorem pImps_copy (g : Grow T) (hc : Closed T ids) (hm : (ids.length : Int) ≤ most) : ∀ (d k : Nat), k + d = ids.length → pImps ((copy T ids).take k) most ((exp T ids).drop k) (ups k) = (copy T ids, ((ids.length : Int), .nilIface))
  | 0, k, hk => by
    have : k = ids.length := by omega
    subst this
    rw [show (exp T ids).drop ids.length = [] by rw [← exp_len T ids, List.drop_length]]
    have : (copy T ids).take ids.length = copy T ids := by rw [← copy_len (T := T), List.take_length]
    rw [this]
    unfold pImps
    congr 2
    unfold ups
    rw [List.range_succ, List.map_append]
    simp
  | d + 1, k, hk => by
    have hkl : k < ids.length := by omega
    obtain ⟨y, hy⟩ : ∃ y, ids[k]? = some y := ⟨_, List.getElem?_eq_getElem hkl⟩
    have hd : (exp T ids).drop k = mvr ids (eAt T y).1 :: (exp T ids).drop (k + 1) := by
      have h := exp_get (T := T) hy
      have hl := (List.getElem?_eq_some_iff.1 h).1
      rw [List.drop_eq_getElem_cons hl, (List.getElem?_eq_some_iff.1 h).2]
    rw [hd, pImps_cons, pPut_copy g hc hy (by omega), if_pos (by rfl)]
    show pImps _ most _ (ups k ++ [((k : Int) + 1)]) = _
    rw [← ups_succ]
    exact pImps_copy g hc hm d (k + 1) (by omega)
theorem pImport_copy (g : Grow T) (hc : Closed T ids) (hm : (ids.length : Int) ≤ most) : pImport [] most (exp T ids) = (copy T ids, ((ids.length : Int), .nilIface)) := by
  unfold pImport
  rw [if_pos (bad_exp g hc)]
  have := pImps_copy (most := most) g hc hm ids.length 0 (by omega)
  simpa [ups] using this

end Go.Proofs.YtnmgjpcooncjlaaGreat

/- A copy exports the same; the walk of InternMoves. -/
set_option linter.unusedVariables false
set_option linter.unusedSimpArgs false
namespace Go.Proofs.YtnmgjpcooncjlaaGreat
open Go.Den

variable {w0 w : World} {T : List ET} {ids : List Int} {most : Int}

theorem mvr_byte (g : Grow T) {y : Int} (h1 : 1 ≤ y) (h2 : y ≤ T.length) : 0 ≤ (mvr ids (eAt T y).1).2.1 ∧ (mvr ids (eAt T y).1).2.1 < 256 := by
  cases g.shape h1 h2 with
  | letter b h3 h4 e => rw [e]; exact ⟨h3, h4⟩
  | pair l r _ _ _ _ _ e => rw [e]; simp [mvr, mkPair]
  | power x k _ _ _ _ e => rw [e]; simp [mvr, mkPower]
theorem copy_grow (g : Grow T) (hc : Closed T ids) : Grow (copy T ids) := by
  have key : ∀ k : Nat, k ≤ ids.length → Grow ((copy T ids).take k) := by
    intro k
    induction k with
    | zero => intro _; exact .nil
    | succ k ih =>
      intro hk
      obtain ⟨y, hy⟩ : ∃ y, ids[k]? = some y := ⟨_, List.getElem?_eq_getElem hk⟩
      have hyb := hc.bound y (List.mem_of_getElem? hy)
      have hlen : ((copy T ids).take k).length = k := by rw [List.length_take, copy_len]; omega
      have := (pPut_grow (most := (k : Int) + 1) (ids := ups k) (r := mvr ids (eAt T y).1) (ih (by omega)) (by rw [hlen]; omega) (mvr_byte g hyb.1 hyb.2)).1
      rw [pPut_copy g hc hy (by omega)] at this
      exact this
  have := key ids.length (Nat.le_refl _)
  rwa [← copy_len (T := T), List.take_length] at this
theorem eAt_copy {k : Nat} {y : Int} (hk : ids[k]? = some y) : eAt (copy T ids) ((k : Int) + 1) = (mvr ids (eAt T y).1, (eAt T y).2) := by
  have h := copy_at (T := T) hk (m := ids.length) (List.getElem?_eq_some_iff.1 hk).1
  rwa [← copy_len (T := T), List.take_length] at h
theorem refs_mvr (g : Grow T) (hc : Closed T ids) {y x : Int} (hy : y ∈ ids) (hx : x ∈ refs (eAt T y).1) : pos ids x ∈ refs (mvr ids (eAt T y).1) := by
  have hyb := hc.bound y hy
  cases g.shape hyb.1 hyb.2 with
  | letter b _ _ e => rw [e] at hx; simp [refs, mkLetter] at hx
  | pair l r _ _ _ _ _ e =>
    rw [e] at hx ⊢
    have : x = l ∨ x = r := by simpa [refs, mkPair] using hx
    rcases this with rfl | rfl <;> simp [refs, mvr, mkPair]
  | power a k _ _ _ _ e =>
    rw [e] at hx ⊢
    have : x = a := by simpa [refs, mkPower] using hx
    subst this; simp [refs, mvr, mkPower]
def upTo (n : Nat) : List Int := (List.range n).map fun i : Nat => (i : Int) + 1
theorem upTo_get {n k : Nat} (h : k < n) : (upTo n)[k]? = some ((k : Int) + 1) := by
  unfold upTo
  rw [List.getElem?_map, List.getElem?_range h]; rfl
theorem upTo_mem {n : Nat} {x : Int} : x ∈ upTo n ↔ 1 ≤ x ∧ x ≤ n := by
  unfold upTo
  rw [List.mem_map]
  constructor
  · rintro ⟨i, hi, rfl⟩
    have := List.mem_range.1 hi; omega
  · intro h
    exact ⟨(x - 1).toNat, List.mem_range.2 (by omega), by omega⟩
theorem upTo_sorted (n : Nat) : (upTo n).Pairwise (fun x y => x < y) := by
  unfold upTo
  rw [List.pairwise_map]
  exact List.pairwise_lt_range.imp fun h => by omega
theorem upTo_pos {n : Nat} {x : Int} (h0 : 0 ≤ x) (h : x ≤ n) : pos (upTo n) x = x := by
  by_cases c : x = 0
  · subst c
    exact pos_none fun hm => by have := (upTo_mem.1 hm).1; omega
  · have := pos_some ((upTo_sorted n).imp fun h => by omega) (upTo_get (n := n) (k := (x - 1).toNat) (by omega))
    rw [show (((x - 1).toNat : Nat) : Int) + 1 = x by omega] at this
    exact this
theorem pos_bound (hc : Closed T ids) (x : Int) : 0 ≤ pos ids x ∧ pos ids x ≤ ids.length := by
  by_cases h : x ∈ ids
  · obtain ⟨j, hj⟩ := List.getElem?_of_mem h
    have := (List.getElem?_eq_some_iff.1 hj).1
    rw [pos_some hc.nodup hj]; omega
  · rw [pos_none h]; omega
/-- the copy of what one rule reaches, exported from its last rule -/
theorem exp_copy (g : Grow T) {id : Int} (h0 : 0 ≤ id) (h1 : id ≤ T.length) : exp (copy T (rlist T [id])) (rlist (copy T (rlist T [id])) [((rlist T [id]).length : Int)]) = exp T (rlist T [id]) ∧ ((0 : Int) :: rlist T [id]).getLastD 0 = id := by
  have hS : ∀ x ∈ [id], 0 ≤ x ∧ x ≤ (T.length : Int) := fun x hx => by simp at hx; subst hx; exact ⟨h0, h1⟩
  have hc := rlist_closed g hS
  have hmem : ∀ x : Int, x ∈ rlist T [id] ↔ Rch T [id] x := fun x => rlist_mem g hS
  generalize rlist T [id] = ids at *
  have hle : ∀ x, Rch T [id] x → x ≤ id := fun x h => by
    induction h with
    | root h _ => simp at h; omega
    | ref h1 h2 ih =>
      have b := h1.bound g hS
      have := (refs_in g b.1 b.2 h2).2
      omega
  by_cases hz : id = 0
  · subst hz
    have he : ids = [] := by
      apply List.eq_nil_iff_forall_not_mem.2
      intro x hx
      have b := hc.bound x hx
      have := hle x ((hmem x).1 hx)
      omega
    subst he
    refine ⟨?_, rfl⟩
    have : rlist (copy T []) [(([] : List Int).length : Int)] = [] := rlist_zero
    rw [this]; rfl
  have hidm : id ∈ ids := (hmem id).2 (.root (by simp) hz)
  obtain ⟨k, hk⟩ := List.getElem?_of_mem hidm
  have hkl := (List.getElem?_eq_some_iff.1 hk).1
  have hlast : k + 1 = ids.length := by
    by_cases h : k + 1 < ids.length
    · have hg : ids[k + 1]? = some ids[k + 1] := List.getElem?_eq_getElem h
      have h2 := (sorted_lt hc.sorted hk hg).2 (by omega)
      have h3 := hle _ ((hmem _).1 (List.getElem_mem h))
      omega
    · omega
  have hlen := copy_len (T := T) (ids := ids)
  have gc := copy_grow g hc
  have hS' : ∀ x ∈ [(ids.length : Int)], 0 ≤ x ∧ x ≤ ((copy T ids).length : Int) := fun x hx => by simp at hx; subst hx; omega
  have hreach : ∀ x : Int, Rch T [id] x → ∀ j : Nat, ids[j]? = some x → Rch (copy T ids) [(ids.length : Int)] ((j : Int) + 1) := by
    intro x hx
    induction hx with
    | root h1 _ =>
      intro j hj
      simp at h1
      subst h1
      have : j = k := (List.getElem_inj hc.nodup (h₀ := (List.getElem?_eq_some_iff.1 hj).1) (h₁ := hkl)).1 (by rw [(List.getElem?_eq_some_iff.1 hj).2, (List.getElem?_eq_some_iff.1 hk).2])
      subst this
      exact .root (by simp; omega) (by omega)
    | @ref y x h1 h2 ih =>
      intro j hj
      have hym := (hmem y).2 h1
      obtain ⟨i, hi⟩ := List.getElem?_of_mem hym
      have := ih i hi
      refine .ref this ?_
      rw [eAt_copy hi]
      have := refs_mvr g hc hym h2
      rwa [pos_some hc.nodup hj] at this
  have hr : rlist (copy T ids) [(ids.length : Int)] = upTo ids.length := by
    refine sorted_unique rlist_sorted (upTo_sorted _) fun x => ?_
    rw [rlist_mem gc hS', upTo_mem]
    constructor
    · intro h
      have := h.bound gc hS'
      omega
    · intro h
      have hg : ids[(x - 1).toNat]? = some ids[(x - 1).toNat] := List.getElem?_eq_getElem (by omega)
      have := hreach _ ((hmem _).1 (List.getElem_mem (by omega))) _ hg
      rwa [show (((x - 1).toNat : Nat) : Int) + 1 = x by omega] at this
  constructor
  · rw [hr]
    apply List.ext_getElem?
    intro i
    by_cases hi : i < ids.length
    · have hg : ids[i]? = some ids[i] := List.getElem?_eq_getElem hi
      rw [exp_get (upTo_get hi), exp_get hg, eAt_copy hg]
      have b1 := pos_bound hc (eAt T ids[i]).1.2.2.1
      have b2 := pos_bound hc (eAt T ids[i]).1.2.2.2.1
      simp only [mvr]
      rw [upTo_pos b1.1 b1.2, upTo_pos b2.1 b2.2]
    · rw [List.getElem?_eq_none (by rw [exp_len]; simp [upTo]; omega), List.getElem?_eq_none (by rw [exp_len]; omega)]
  · rw [List.getLastD_cons, List.getLastD_eq_getLast?, List.getLast?_eq_getElem?, show ids.length - 1 = k by omega, hk]; rfl

theorem ruleOK_exp (g : Grow T) (hc : Closed T ids) : ∀ r ∈ exp T ids, RuleOK r := by
  intro r hr
  obtain ⟨y, hy, rfl⟩ := List.mem_map.1 hr
  have hyb := hc.bound y hy
  refine ⟨mvr_byte g hyb.1 hyb.2, ?_⟩
  show (eAt T y).1.2.2.2.2 ≤ _
  cases g.shape hyb.1 hyb.2 with
  | letter b _ _ e => rw [e]; simp [mkLetter]
  | pair l r _ _ _ _ _ e => rw [e]; simp [mkPair]
  | power x k h1 h2 h3 h4 e =>
    rw [e]
    have hpos := (g.at_ (id := x) (by omega) (by omega)).2.2.2 h1
    have : 1 * k ≤ (eAt T x).2.1.1 * k := Int.mul_le_mul_of_nonneg_right hpos (by omega)
    simp only [mkPower]; omega

end Go.Proofs.YtnmgjpcooncjlaaGreat

/- law12: a table after a script; Sweep. -/
set_option linter.unusedVariables false
set_option linter.unusedSimpArgs false
namespace Go.Proofs.YtnmgjpcooncjlaaGreat
open Go.Den

variable {w0 w : World} {Ω : List Ob} {most : Int} {T : List ET} {i j a b q r : Nat} {p : Addr} {m : yevergreenref12_Store.T} {mm : List (Int × (Ty.int .i64).T)}

theorem collect_New_sp (s : Sp w0 Ω w) {K : Option Addr → World → Prop} (h : ∀ q r w', Sp w0 (cel q [.pointer (some p), .map (some r)] :: mc (.int .i64) r [] :: Ω) w' → K (some ⟨q, 0, none⟩) w') : C_collect_New (some p) K w := by
  apply S_collect_New
  unfold F_collect_New
  exact gd_f rfl (s.allocC (.int .i64) fun r w1 s => s.allocK fun q w2 s => h q r _ s)
theorem TH.nil : TH T [] [] := ⟨fun y => rfl, by simp, by simp⟩
theorem ctN_cut {held : List Int} {n : Nat} {x : Int} (h : held[n]? = some x) (y : Int) : ctN y (held.take n ++ held.drop (n + 1)) = ctN y held - (if y = x then 1 else 0) := by
  have hn := (List.getElem?_eq_some_iff.1 h).1
  have e : held = held.take n ++ x :: held.drop (n + 1) := by
    have h1 := List.take_append_drop n held
    rw [List.drop_eq_getElem_cons hn] at h1
    rw [(List.getElem?_eq_some_iff.1 h).2] at h1
    exact h1.symm
  unfold ctN
  conv => rhs; rw [e]
  rw [List.count_append, List.count_append, List.count_cons]
  by_cases c : y = x
  · rw [if_pos c]; simp [c]; omega
  · rw [if_neg c]; simp [Ne.symm c]

abbrev ActT := Int × Int
/-! ### Moved rules -/
def toL (N : Nat) (ids : List Int) : List (Ty.int .i64).T := (List.range (N + 1)).map fun y : Nat => pos ids (y : Int)
theorem toL_len (N : Nat) (ids : List Int) : (toL N ids).length = N + 1 := by simp [toL]
theorem toL_get {N : Nat} {ids : List Int} {y : Int} (h0 : 0 ≤ y) (h : y ≤ N) : (toL N ids)[y.toNat]? = some (pos ids y) := by
  unfold toL
  rw [List.getElem?_map, List.getElem?_range (by omega), Option.map_some, show ((y.toNat : Nat) : Int) = y by omega]
theorem toL_nil (N : Nat) : toL N [] = List.replicate (N + 1) (0 : Int) := by
  apply List.ext_getElem?
  intro k
  by_cases h : k < N + 1
  · rw [List.getElem?_replicate, if_pos h]
    have := toL_get (N := N) (ids := []) (y := (k : Int)) (by omega) (by omega)
    rw [show ((k : Int)).toNat = k by omega] at this
    rw [this, pos_none (by simp)]
  · rw [List.getElem?_eq_none (by rw [toL_len]; omega), List.getElem?_eq_none (by simp; omega)]
theorem pos_snoc {ids : List Int} {x : Int} (hx : x ∉ ids) (y : Int) : pos (ids ++ [x]) y = if y = x then (ids.length : Int) + 1 else pos ids y := by
  unfold pos
  rw [ent_append, lk_append, lk_one (kt := .int .i64) (vt := .int .i64) rfl]
  by_cases h : y = x
  · subst h
    rw [if_pos rfl, if_pos rfl, lk_ent_none hx]; rfl
  · rw [if_neg h, if_neg h]
    cases lk (ent ids) y <;> rfl
theorem toL_snoc {N : Nat} {ids : List Int} {x : Int} (hx : x ∉ ids) (h0 : 0 ≤ x) (h : x ≤ N) : (toL N ids).set x.toNat ((ids.length : Int) + 1) = toL N (ids ++ [x]) := by
  apply List.ext_getElem?
  intro k
  by_cases hk : k < N + 1
  · have g1 := toL_get (N := N) (ids := ids) (y := (k : Int)) (by omega) (by omega)
    have g2 := toL_get (N := N) (ids := ids ++ [x]) (y := (k : Int)) (by omega) (by omega)
    rw [show ((k : Int)).toNat = k by omega] at g1 g2
    rw [g2, pos_snoc hx, List.getElem?_set]
    by_cases c : x.toNat = k
    · rw [if_pos c, if_pos (by rw [toL_len]; omega), if_pos (by omega)]
    · rw [if_neg c, if_neg (by omega), g1]
  · rw [List.getElem?_eq_none (by rw [List.length_set, toL_len]; omega), List.getElem?_eq_none (by rw [toL_len]; omega)]
theorem pos_take {ids : List Int} (hn : ids.Nodup) {n j : Nat} {z : Int} (hj : ids[j]? = some z) (h : j < n) : pos (ids.take n) z = pos ids z := by
  rw [pos_some hn hj, pos_some (hn.sublist (List.take_sublist n ids)) (by rw [List.getElem?_take_of_lt h]; exact hj)]
/-- where a rule of a closed list goes -/
theorem mv_take (g : Grow T) {ids : List Int} (hc : Closed T ids) {k : Nat} {y : Int} (hk : ids[k]? = some y) : mvr (ids.take k) (eAt T y).1 = mvr ids (eAt T y).1 := by
  have p0 := pos_zero hc
  have p0' : pos (ids.take k) 0 = 0 := pos_none fun h => hc.nz (List.mem_of_mem_take h)
  have hyb := hc.bound y (List.mem_of_getElem? hk)
  have key : ∀ z, z ∈ YtnmgjpcooncjlaaGreat.refs (eAt T y).1 → pos (ids.take k) z = pos ids z := fun z hz => by
    obtain ⟨j, h1, h2, _⟩ := hc.ref g hk hz
    exact pos_take hc.nodup h2 h1
  cases g.shape hyb.1 hyb.2 with
  | letter b _ _ e => rw [e]; simp [mvr, mkLetter, p0, p0']
  | pair l r' _ _ _ _ _ e =>
    have k1 := key l (by rw [e]; simp [refs, mkPair])
    have k2 := key r' (by rw [e]; simp [refs, mkPair])
    rw [e]; simp [mvr, mkPair, k1, k2]
  | power x m _ _ _ _ e =>
    have k1 := key x (by rw [e]; simp [refs, mkPower])
    rw [e]; simp [mvr, mkPower, k1, p0, p0']
theorem rule_Move_sp {tsl : Sl} {ids : List Int} {y : Int} (g : Grow T) (hy : 1 ≤ y ∧ y ≤ (T.length : Int)) (hz : (0 : Int) ∉ ids) (s : Sp w0 Ω w) (hv : ∀ w', Sp w0 Ω w' → View (.int .i64) w' tsl (toL T.length ids)) (hN : T.length ≤ 1048576) {K : RT × Value → World → Prop} (h : ∀ w', Sp w0 Ω w' → K (mvr ids (eAt T y).1, .nilIface) w') : C_rule_Move (eAt T y).1 tsl K w := by
  apply S_rule_Move
  unfold F_rule_Move
  have hl := (hv _ s).len
  rw [toL_len] at hl
  have p0 : pos ids 0 = 0 := pos_none hz
  refine s.allocK fun a1 w1 s => s.allocK fun a2 w2 s => s.ld0 (ty := yapi_Rule) (x := (eAt T y).1) 1 rfl rfl (rule_Refs_spec s fun rl w3 s => ?_)
  have hr2 := refs_len (eAt T y).1
  refine loop_by (fun x => x.1) (refs (eAt T y).1).length (fun n _ w => Sp w0 (own (.int .i64) rl (refs (eAt T y).1) :: cel a2 [.int .i64 0, .int .u8 0, .int .i64 0, .int .i64 0, .int .i64 0] :: cel a1 (cells yapi_Rule (eAt T y).1) :: Ω) w) rfl s ?_
  clear s
  rintro n ⟨x, _⟩ w4 hn hx s _
  dsimp only at hx ⊢
  subst hx
  have hrl := (s.view 0 rfl).len
  refine gd_dec (fun hlt => ?_) (fun hge => ?_)
  · have hn' : n < (refs (eAt T y).1).length := by omega
    obtain ⟨z, hz⟩ : ∃ z : Int, (refs (eAt T y).1)[n]? = some z := ⟨_, List.getElem?_eq_getElem hn'⟩
    have hzb := refs_in g hy.1 hy.2 (List.mem_of_getElem? hz)
    refine (s.view 0 rfl).idx rfl hz rfl fun q hq => ⟨z, hq, JoinP.inl (gd_f (decide_eq_false (by omega)) ?_)⟩
    intro _
    exact gd_f (decide_eq_false (by omega)) (arith_i64 (by omega) (by omega) (loop_nx hn' s))
  have s := s.pop
  refine ⟨fun _ w => Sp w0 (cel a2 [.int .i64 0, .int .u8 0, .int .i64 0, .int .i64 0, .int .i64 0] :: cel a1 (cells yapi_Rule (mvr ids (eAt T y).1)) :: Ω) w, ?_, fun _ w7 s _ => s.ld0 (ty := yapi_Rule) (x := mvr ids (eAt T y).1) 1 rfl rfl (s.st0 0 rfl rfl rfl fun w12 s => s.ld0 (ty := yapi_Rule) (x := mvr ids (eAt T y).1) 0 rfl rfl (h _ (s.drop 2)))⟩
  cases g.shape hy.1 hy.2 with
  | letter b h1 h2 e =>
    have em : mvr ids (eAt T y).1 = (eAt T y).1 := by rw [e]; simp [mvr, mkLetter, p0]
    refine s.ldi (x := 1) 1 0 rfl (by rw [e]; rfl) (gd_f rfl (gd_f rfl ?_))
    rw [em]; exact s
  | pair l r' h1 h2 h3 h4 _ e =>
    have g1 := toL_get (N := T.length) (ids := ids) (y := l) (by omega) (by omega)
    have g2 := toL_get (N := T.length) (ids := ids) (y := r') (by omega) (by omega)
    refine s.ldi (x := 2) 1 0 rfl (by rw [e]; rfl) (gd_t rfl (s.drawK fun w8 s => s.ldi (x := l) 1 2 rfl (by rw [e]; rfl) ((hv _ (s.drop 2)).idx (n := l.toNat) (by omega) g1 rfl fun q1 hq1 => ⟨_, hq1, s.ldi (x := r') 1 3 rfl (by rw [e]; rfl) ((hv _ (s.drop 2)).idx2 (n := r'.toNat) (by omega) g2 rfl fun q2 hq2 => ⟨_, hq2 _ (hv _ (s.drop 2)), ?_⟩)⟩)))
    rw [e] at s ⊢
    exact s.st 1 2 rfl rfl rfl fun w9 s => ⟨hq2 _ (hv _ (s.drop 2)), s.st 1 3 rfl rfl rfl fun w10 s => s⟩
  | power x m h1 h2 _ _ e =>
    have g1 := toL_get (N := T.length) (ids := ids) (y := x) (by omega) (by omega)
    refine s.ldi (x := 3) 1 0 rfl (by rw [e]; rfl) (gd_f rfl (gd_t rfl (s.ldi (x := x) 1 2 rfl (by rw [e]; rfl) ((hv _ (s.drop 2)).idx (n := x.toNat) (by omega) g1 rfl fun q1 hq1 => ⟨_, hq1, ?_⟩))))
    rw [e] at s ⊢
    refine s.st 1 2 rfl rfl rfl fun w9 s => ?_
    have em : cells yapi_Rule (mvr ids (mkPower T x m).1) = [.int .i64 3, .int .u8 0, .int .i64 (pos ids x), .int .i64 0, .int .i64 m] := by simp [mvr, mkPower, p0, cells]
    rw [em]
    exact s

/-! ### Sweep -/
def clampM (most : Int) : Int := if most < 0 then 0 else if 1048576 < most then 1048576 else most
theorem Table_Sweep_sp {held : List Int} {top : Int} (t : Tb Ω a b i q r p most T mm) (th : TH T mm held) (s : Sp w0 Ω w) {K : Option Addr × Sl × Value → World → Prop}
    (h1 : ((rlist T held).length : Int) ≤ clampM top → ∀ p2 tosl w', Sp w0 (sto p2 (clampM top) (YtnmgjpcooncjlaaGreat.copy T (rlist T held)) :: own (.int .i64) tosl (toL T.length (rlist T held)) :: Ω) w' → K (some p2, tosl, .nilIface) w')
    (h2 : clampM top < ((rlist T held).length : Int) → ∀ w', Sp w0 Ω w' → K (none, ⟨none, 0, 0⟩, errV 3) w') : C_collect_Table_Sweep (some ⟨q, 0, none⟩) top K w := by
  apply S_collect_Table_Sweep
  unfold F_collect_Table_Sweep
  obtain ⟨_, _, _, hb0, hb1, hb2, hg⟩ := Sp.entry s i t.hi
  have hN : ((T.length : Int) + 1).toNat = T.length + 1 := by omega
  refine Table_none_sp t s (gd_f rfl (nonNil_some (s.ldp (x := some p) a 0 t.ha rfl (intern_Len_sp s i t.hi (arith_i64 (by omega) (by omega) ⟨by omega, by omega, by omega, by omega, s.mkS (.int .i64) (0 : Int) (T.length + 1) (T.length + 1) (Nat.le_refl _) (fun a6 w3 s => ?_) rfl (by rw [hN]; rfl)⟩)))))
  rw [hN]
  refine Table_Live_sp (t.cons _) th s fun lsl w4 s => ?_
  have hc := rlist_closed hg th.known
  have hrl := rlist_len T held
  generalize rlist T held = ids at *
  have hil := (s.view 0 rfl).len
  have hel := exp_len T ids
  have s : Sp w0 (own yapi_Rule ⟨none, 0, 0⟩ ((exp T ids).take 0) :: own (.int .i64) lsl ids :: own (.int .i64) ⟨some ⟨a6, 0, none⟩, T.length + 1, T.length + 1⟩ (toL T.length (ids.take 0)) :: Ω) w4 := by
    rw [List.take_zero, List.take_zero, toL_nil]
    exact s.nil yapi_Rule
  refine loop_by (fun x => x.2.1) ids.length (fun n x w => Sp w0 (own yapi_Rule x.1 ((exp T ids).take n) :: own (.int .i64) lsl ids :: own (.int .i64) ⟨some ⟨a6, 0, none⟩, T.length + 1, T.length + 1⟩ (toL T.length (ids.take n)) :: Ω) w) rfl s ?_
  clear s
  rintro n ⟨out, x, _⟩ w5 hn hx s _
  dsimp only at hx s ⊢
  subst hx
  refine gd_dec (fun hlt => ?_) (fun hge => ?_)
  · have hn' : n < ids.length := by omega
    obtain ⟨y, hy⟩ : ∃ y, ids[n]? = some y := ⟨_, List.getElem?_eq_getElem hn'⟩
    have hyb := hc.bound y (List.mem_of_getElem? hy)
    have hmv := mv_take hg hc hy
    have hz0 : (0 : Int) ∉ ids.take n := fun h => hc.nz (List.mem_of_mem_take h)
    have hyn : y ∉ ids.take n := fun h => by
      obtain ⟨j, hj⟩ := List.getElem?_of_mem h
      have hjl := (List.getElem?_eq_some_iff.1 hj).1
      rw [List.length_take] at hjl
      rw [List.getElem?_take_of_lt (by omega)] at hj
      have := nodup_at hc.nodup hj hy
      omega
    have htk : ids.take (n + 1) = ids.take n ++ [y] := by rw [List.take_add_one, hy]; rfl
    have hetk : (exp T ids).take (n + 1) = (exp T ids).take n ++ [mvr ids (eAt T y).1] := by rw [List.take_add_one, exp_get hy]; rfl
    have htl : (ids.take n).length = n := by rw [List.length_take]; omega
    refine (s.view 1 rfl).idx rfl hy rfl fun q1 hq1 => ⟨y, hq1, nonNil_some (s.ldp (x := some p) (a + 3) 0 t.ha rfl (intern_Rule_k s (i + 3) t.hi hyb fun w6 s => s.allocK fun a15 w7 s => s.st0 0 rfl rfl rfl fun w8 s => nilIfc_nil (gd_f rfl (s.ld0 (ty := yapi_Rule) (x := (eAt T y).1) 0 rfl rfl ?_))))⟩
    refine rule_Move_sp hg hyb hz0 s (fun w' s => s.view 3 rfl) (by omega) fun w9 s => s.st0 0 rfl rfl rfl fun w10 s => nilIfc_nil (gd_f rfl ?_)
    rw [hmv] at s
    refine s.ld0 (ty := yapi_Rule) (x := mvr ids (eAt T y).1) 0 rfl rfl (s.allocK fun a21 w11 s => s.app 2 rfl ((s.lit (ty := yapi_Rule) 0 rfl [mvr ids (eAt T y).1] 1 rfl rfl).view 0 rfl) (by simp only [List.length_take, List.length_cons, List.length_nil]; omega) fun s22 w12 s => arith_i64 (by omega) (by omega) ?_)
    refine s.setI 4 rfl (n := y.toNat) (y := (n : Int) + 1) (by omega) (by rw [toL_len]; omega) fun w13 s => arith_i64 (by omega) (by omega) (loop_nx hn' ?_)
    have e2 := toL_snoc (N := T.length) hyn (by omega) hyb.2
    rw [htl] at e2
    rw [htk, hetk, ← e2]
    exact s.drop 2
  have en : n = ids.length := by omega
  subst en
  rw [List.take_length, ← hel, List.take_length] at s
  have hol := (s.view 0 rfl).len
  refine intern_New_sp s fun p2 w14 s => intern_Room_sp s 0 rfl fun w15 s => ?_
  have s : Sp w0 (sto p2 (clampM top) [] :: own yapi_Rule out (exp T ids) :: own (.int .i64) lsl ids :: own (.int .i64) ⟨some ⟨a6, 0, none⟩, T.length + 1, T.length + 1⟩ (toL T.length ids) :: Ω) w15 := s
  have h1' : ((ids.length : Int) ≤ clampM top) → _ := h1
  have h2' : (clampM top < (ids.length : Int)) → _ := h2
  have eroom : (if top < 0 then 0 else if 1048576 < top then 1048576 else top) - ((([] : List ET).length : Nat) : Int) = clampM top := by unfold clampM; simp
  rw [eroom]
  refine gd_dec (fun c => h2 (by omega) _ (s.drop 4)) (fun c => ?_)
  have hro := ruleOK_exp hg hc
  refine intern_Import_sp hro (by omega) s 0 rfl (fun w' Ω' s => s.view (Ω'.length + 1) (by rw [List.getElem?_append_right (by omega)]; simp)) (fun w' Ω' T' s => s.view (Ω'.length + 1) (by rw [List.getElem?_append_right (by omega)]; simp)) fun w16 s => ?_
  rw [pImport_copy hg hc (by omega)] at s ⊢
  exact nilIfc_nil (gd_f rfl (h1 (by omega) p2 _ _ (s.pick [0, 3] 4 rfl (by decide))))

end Go.Proofs.YtnmgjpcooncjlaaGreat

/- law12: the specification's Sweep; the walks of CollectHolds, CollectSweeps and CollectNone. -/
set_option linter.unusedVariables false
set_option linter.unusedSimpArgs false
namespace Go.Proofs.YtnmgjpcooncjlaaGreat
open Go.Den

variable {w0 w : World} {Ω : List Ob} {most : Int} {T : List ET} {i j a b q r : Nat} {p : Addr} {m : yevergreenref12_Store.T} {mm : List (Int × (Ty.int .i64).T)}

theorem trues_pre (inl : List Ty.bool.T) : ∀ n k, n ≤ k → trues inl n <+: trues inl k := by
  intro n k h
  induction h with
  | refl => exact List.prefix_refl _
  | step _ ih => rw [Nat.succ_eq_add_one, trues_succ]; exact ih.trans (List.prefix_append _ _)
def mvL (T : List ET) (ids L : List Int) : List yapi_Rule.T := L.map fun y => mvr ids (eAt T y).1
theorem mvL_len (T : List ET) (ids L : List Int) : (mvL T ids L).length = L.length := List.length_map _
theorem ref12_Sweep_spec {rsl : Sl} {S : List Int} (g : Grow T) (hS : Known_ T S) (s : Sp w0 Ω w) (j : Nat) (hj : Ω[j]? = some (rf2 m T)) (hl : T.length ≤ 1048576) (hv : ∀ w', Sp w0 Ω w' → View (.int .i64) w' rsl S) (hSN : S.length ≤ 1000000000) {K : Sl × Sl → World → Prop}
    (h : ∀ out tosl w', Sp w0 (own yapi_Rule out (exp T (rlist T S)) :: own (.int .i64) tosl (toL T.length (rlist T S)) :: Ω) w' → K (out, tosl) w') : C_ref12_Sweep m rsl K w := by
  apply S_ref12_Sweep
  unfold F_ref12_Sweep
  have hlen := (Sp.rf2_ s j hj).1.len
  rw [rulesOf_len] at hlen
  have hN : ((m.1.len : Int) + 1).toNat = T.length + 1 := by omega
  refine s.allocK fun a1 w1 s => s.ld0 (ty := yevergreenref12_Store) (x := m) 0 rfl rfl (ref12_Reach_spec g s (j + 1) hj hl (fun w' s => hv _ s.pop) hSN (fun _ isl inl w2 hmb s => ?_) (fun hn => absurd hS hn))
  have hil := hmb.1
  have hend := trues_rlist g hS hmb
  rw [hil] at hend
  have hc := rlist_closed g hS
  rw [← hend] at h hc
  have t1 : trues inl 1 = [] := by
    obtain ⟨b, hb, hbi⟩ := hmb.2 0 (by omega)
    have : b = false := by
      cases b
      · rfl
      · exact absurd rfl (hbi.1 rfl).1
    subst this
    rw [trues_succ, List.getD_eq_getElem?_getD, hb]; rfl
  generalize hids : trues inl (T.length + 1) = ids at h hc
  refine s.lds (x := m.1) 1 0 rfl rfl (arith_i64 (by omega) (by omega) ⟨by omega, by omega, by omega, by omega, s.mkS (.int .i64) (0 : Int) (T.length + 1) (T.length + 1) (Nat.le_refl _) (fun a6 w3 s => ?_) rfl (by rw [hN]; rfl)⟩)
  rw [hN]
  refine loop_from 1 (fun x => x.2.1) T.length (fun n x w => Sp w0 (own yapi_Rule x.1 (mvL T ids (trues inl (n + 1))) :: own (.int .i64) ⟨some ⟨a6, 0, none⟩, T.length + 1, T.length + 1⟩ (toL T.length (trues inl (n + 1))) :: own .bool isl inl :: cel a1 (cells yevergreenref12_Store m) :: Ω) w) rfl (by rw [t1, toL_nil]; exact s.nil yapi_Rule) ?_
  clear s
  rintro n ⟨out, x, _⟩ w4 hn hx s _
  dsimp only at hx s ⊢
  subst hx
  have htl := trues_len inl (n + 1)
  refine s.lds (x := m.1) 3 0 rfl rfl (gd_dec (fun hle => ?_) (fun hgt => ?_))
  rotate_left
  · have en : n = T.length := by omega
    subst en
    rw [hids] at s
    exact h _ _ _ (s.pick [0, 1] 4 rfl (by decide))
  have hn' : n < T.length := by omega
  obtain ⟨b, hb, hbi⟩ := hmb.2 (n + 1) (by omega)
  have hbd : inl.getD (n + 1) false = b := by rw [List.getD_eq_getElem?_getD, hb]; rfl
  refine ⟨fun x w => Sp w0 (own yapi_Rule x.1 (mvL T ids (trues inl (n + 1 + 1))) :: own (.int .i64) ⟨some ⟨a6, 0, none⟩, T.length + 1, T.length + 1⟩ (toL T.length (trues inl (n + 1 + 1))) :: own .bool isl inl :: cel a1 (cells yevergreenref12_Store m) :: Ω) w, (s.view 2 rfl).idx (n := n + 1) (by omega) hb rfl fun q hq => ⟨b, hq, gd_not (gd_mk (fun e => ?_) (fun e => ?_))⟩, fun x w s _ => arith_i64 (by omega) (by omega) (loop_fx hn' s)⟩
  rotate_left
  · rw [trues_succ, hbd, e]
    simpa using s
  have htk : trues inl (n + 1 + 1) = trues inl (n + 1) ++ [((n + 1 : Nat) : Int)] := by rw [trues_succ, hbd, e]; rfl
  -- the rule's references are behind it already
  have hpre : trues inl (n + 1 + 1) <+: ids := by rw [← hids]; exact trues_pre inl _ _ (by omega)
  have hat : ids[(trues inl (n + 1)).length]? = some ((n + 1 : Nat) : Int) := by
    obtain ⟨u, hu⟩ := hpre
    rw [← hu, htk]
    simp
  have htake : ids.take (trues inl (n + 1)).length = trues inl (n + 1) := by
    obtain ⟨u, hu⟩ := hpre
    rw [← hu, htk]
    simp
  have hmv := mv_take g hc hat
  rw [htake] at hmv
  have hget := rulesOf_get (T := T) hn'
  rw [show (n : Int) + 1 = ((n + 1 : Nat) : Int) by omega] at hget
  have hyb := hc.bound _ (List.mem_of_getElem? hat)
  have hz0 : (0 : Int) ∉ trues inl (n + 1) := fun h0 => hc.nz (by rw [← htake] at h0; exact List.mem_of_mem_take h0)
  have hyn : ((n + 1 : Nat) : Int) ∉ trues inl (n + 1) := fun hm => by
    obtain ⟨k, hk, hkl, _⟩ := (show ((n + 1 : Nat) : Int) ∈ trues inl (n + 1) → ∃ k : Nat, ((n + 1 : Nat) : Int) = k ∧ k < n + 1 ∧ True from fun hm => by
      unfold trues at hm
      obtain ⟨k, hk, e⟩ := List.mem_map.1 hm
      have := List.mem_range.1 (List.mem_filter.1 hk).1
      exact ⟨k, e.symm, this, trivial⟩) hm
    omega
  have p0 : pos (trues inl (n + 1)) 0 = 0 := pos_none hz0
  have eid : (1 : Int) + (n : Int) = ((n + 1 : Nat) : Int) := by omega
  have e2 := toL_snoc (N := T.length) hyn (by omega) hyb.2
  rw [htk]
  have em : mvL T ids (trues inl (n + 1) ++ [((n + 1 : Nat) : Int)]) = mvL T ids (trues inl (n + 1)) ++ [mvr ids (eAt T ((n + 1 : Nat) : Int)).1] := by simp [mvL]
  rw [em, ← e2]
  rw [eid]
  have htl2 : (trues inl (n + 1)).length ≤ n + 1 := htl
  have hsh := g.shape hyb.1 hyb.2
  generalize hL : trues inl (n + 1) = L at *
  have hn1 : (((n + 1 : Nat) : Int)).toNat = n + 1 := by omega
  have hnidx : (((n + 1 : Nat) : Int)) - 1 = (n : Int) := by omega
  generalize hy : ((n + 1 : Nat) : Int) = y at *
  refine s.lds (x := m.1) 3 0 rfl rfl (arith_i64 (by omega) (by omega) ((Sp.rf2_ s (j + 4) hj).1.idx (n := n) hnidx hget rfl fun q1 hq1 => ⟨_, hq1, s.allocK fun a18 w6 s => s.st0 0 rfl rfl rfl fun w7 s => ?_⟩))
  have fin : ∀ w, Sp w0 (cel a18 (cells yapi_Rule (mvr ids (eAt T y).1)) :: own yapi_Rule out (mvL T ids L) :: own (.int .i64) ⟨some ⟨a6, 0, none⟩, T.length + 1, T.length + 1⟩ (toL T.length L) :: own .bool isl inl :: cel a1 (cells yevergreenref12_Store m) :: Ω) w →
      ∃ x34 : yapi_Rule.T, At w ⟨a18, 0, none⟩ (cells yapi_Rule x34) ∧ Go.Den.allocK (.cells (cells yapi_Rule x34).toArray t_api_Rule) w fun a35 w13 => appK t_api_Rule 5 40 #[.int .i64 (0 : Int), .int .u8 (0 : Int), .int .i64 (0 : Int), .int .i64 (0 : Int), .int .i64 (0 : Int)] out.a out.len out.cap (.slice (some a35) 1 1) 1 w13 fun s36 w14 =>
        idxK (some ⟨a6, 0, none⟩) (T.length + 1) y 1 fun p37 => stK w14 p37 ([.int .i64 (s36.len : Int)]) fun w15 => Sp w0 (own yapi_Rule s36 (mvL T ids L ++ [mvr ids (eAt T y).1]) :: own (.int .i64) ⟨some ⟨a6, 0, none⟩, T.length + 1, T.length + 1⟩ ((toL T.length L).set y.toNat ((L.length : Int) + 1)) :: own .bool isl inl :: cel a1 (cells yevergreenref12_Store m) :: Ω) w15 := by
    intro w s
    refine s.ld0 (ty := yapi_Rule) (x := mvr ids (eAt T y).1) 0 rfl rfl (s.allocK fun a35 w13 s => s.app 2 rfl ((s.lit (ty := yapi_Rule) 0 rfl [mvr ids (eAt T y).1] 1 rfl rfl).view 0 rfl) (by rw [mvL_len]; simp only [List.length_cons, List.length_nil]; omega) fun s36 w14 s => ?_)
    have hol := (s.view 2 rfl).len
    rw [List.length_append, mvL_len] at hol
    have : (s36.len : Int) = (L.length : Int) + 1 := by rw [hol]; simp
    rw [this]
    exact s.setI 3 rfl (n := y.toNat) (y := (L.length : Int) + 1) (by omega) (by rw [toL_len]; omega) fun w15 s => s.drop 2
  cases hsh with
  | letter b h1 h2 e =>
    have em2 : mvr ids (eAt T y).1 = (eAt T y).1 := by rw [← hmv, e]; simp [mvr, mkLetter, p0]
    refine JoinP.inl (JoinP.inl (s.ldi (x := 1) 0 0 rfl (by rw [e]; rfl) (gd_f rfl (s.ldi (x := 1) 0 0 rfl (by rw [e]; rfl) ?_))))
    intro _
    refine gd_f rfl ?_
    intro _
    refine JoinP.inl (s.ldi (x := 1) 0 0 rfl (by rw [e]; rfl) (gd_f rfl ?_))
    intro _
    exact fin _ (by rw [em2]; exact s)
  | pair l r' h1 h2 h3 h4 _ e =>
    have g1 := toL_get (N := T.length) (ids := L) (y := l) (by omega) (by omega)
    have g2 := toL_get (N := T.length) (ids := L) (y := r') (by omega) (by omega)
    have hm2 : mvr ids (eAt T y).1 = (2, 0, pos L l, pos L r', 0) := by rw [← hmv, e]; rfl
    refine JoinP.inl (JoinP.inl (s.ldi (x := 2) 0 0 rfl (by rw [e]; rfl) (gd_t rfl ?_)))
    intro _
    refine gd_t rfl (s.ldi (x := l) 0 2 rfl (by rw [e]; rfl) ((s.view 2 rfl).idx (n := l.toNat) (by omega) g1 rfl fun q2 hq2 => ⟨_, hq2, ?_⟩))
    rw [e] at s
    refine s.st 0 2 rfl rfl rfl fun w10 s => ?_
    intro _
    refine JoinP.inl (s.ldi (x := 2) 0 0 rfl rfl (gd_t rfl (s.ldi (x := r') 0 3 rfl rfl ((s.view 2 rfl).idx (n := r'.toNat) (by omega) g2 rfl fun q3 hq3 => ⟨_, hq3, s.st 0 3 rfl rfl rfl fun w11 s => ?_⟩))))
    intro _
    exact fin _ (by rw [hm2]; exact s)
  | power x k h1 h2 _ _ e =>
    have g1 := toL_get (N := T.length) (ids := L) (y := x) (by omega) (by omega)
    have hm2 : mvr ids (eAt T y).1 = (3, 0, pos L x, 0, k) := by rw [← hmv, e]; simp [mvr, mkPower, p0]
    refine JoinP.inl (JoinP.inl (s.ldi (x := 3) 0 0 rfl (by rw [e]; rfl) (gd_f rfl (s.ldi (x := 3) 0 0 rfl (by rw [e]; rfl) ?_))))
    intro _
    refine gd_t rfl (s.ldi (x := x) 0 2 rfl (by rw [e]; rfl) ((s.view 2 rfl).idx (n := x.toNat) (by omega) g1 rfl fun q2 hq2 => ⟨_, hq2, ?_⟩))
    rw [e] at s
    refine s.st 0 2 rfl rfl rfl fun w10 s => ?_
    intro _
    refine JoinP.inl (s.ldi (x := 3) 0 0 rfl rfl (gd_f rfl ?_))
    intro _
    exact fin _ (by rw [hm2]; exact s)

end Go.Proofs.YtnmgjpcooncjlaaGreat

/- law12: the walks of CollectSweeps, CollectNone, CollectAgain, CollectKeeps. -/
set_option linter.unusedVariables false
set_option linter.unusedSimpArgs false
namespace Go.Proofs.YtnmgjpcooncjlaaGreat
open Go.Den

variable {w0 w : World} {Ω : List Ob} {most : Int} {T : List ET} {i j a b q r : Nat} {p : Addr} {m : yevergreenref12_Store.T} {mm : List (Int × (Ty.int .i64).T)}

/-! ### Nothing -/
theorem collect_Reach_nil {sl : Sl} {K : Sl × Value → World → Prop} (h : K (⟨none, 0, 0⟩, errV 5) w) : C_collect_Reach none sl K w := by
  apply S_collect_Reach
  unfold F_collect_Reach
  exact gd_t rfl h
/-! ### A swept store, swept again -/
theorem copy_known {S : List Int} {ids : List Int} (hc : Closed T ids) : Known_ (YtnmgjpcooncjlaaGreat.copy T ids) (S.map (pos ids)) := fun x hx => by
  obtain ⟨y, _, rfl⟩ := List.mem_map.1 hx
  have := pos_bound hc y
  rw [copy_len]; exact this
theorem copy_reach (g : Grow T) {S : List Int} (hS : Known_ T S) {x : Int} (hx : Rch T S x) : ∀ j : Nat, (rlist T S)[j]? = some x → Rch (YtnmgjpcooncjlaaGreat.copy T (rlist T S)) (S.map (pos (rlist T S))) ((j : Int) + 1) := by
  have hc := rlist_closed g hS
  have hmem : ∀ x : Int, x ∈ rlist T S ↔ Rch T S x := fun x => rlist_mem g hS
  generalize rlist T S = ids at *
  induction hx with
  | root h1 _ =>
    intro j hj
    refine .root (List.mem_map.2 ⟨_, h1, pos_some hc.nodup hj⟩) (by omega)
  | @ref y x h1 h2 ih =>
    intro j hj
    have hym := (hmem y).2 h1
    obtain ⟨i, hi⟩ := List.getElem?_of_mem hym
    refine .ref (ih i hi) ?_
    rw [eAt_copy hi]
    have := refs_mvr g hc hym h2
    rwa [pos_some hc.nodup hj] at this
theorem rlist_copy_all (g : Grow T) {S : List Int} (hS : Known_ T S) : rlist (YtnmgjpcooncjlaaGreat.copy T (rlist T S)) (S.map (pos (rlist T S))) = upTo (rlist T S).length := by
  have hc := rlist_closed g hS
  have gc := copy_grow g hc
  have hk := copy_known (S := S) hc
  have hcl := copy_len (T := T) (ids := rlist T S)
  refine sorted_unique rlist_sorted (upTo_sorted _) fun x => ?_
  rw [rlist_mem gc hk, upTo_mem]
  constructor
  · intro h
    have := h.bound gc hk
    omega
  · intro h
    have hg : (rlist T S)[(x - 1).toNat]? = some (rlist T S)[(x - 1).toNat] := List.getElem?_eq_getElem (by omega)
    have := copy_reach g hS ((rlist_mem g hS).1 (List.getElem_mem (by omega))) _ hg
    rwa [show (((x - 1).toNat : Nat) : Int) + 1 = x by omega] at this
theorem nodup_map {f : Int → Int} : ∀ {L : List Int}, L.Nodup → (∀ x ∈ L, ∀ y ∈ L, f x = f y → x = y) → (L.map f).Nodup
  | [], _, _ => List.nodup_nil
  | x :: L, hn, hf => by
    rw [List.nodup_cons] at hn
    rw [List.map_cons, List.nodup_cons]
    refine ⟨fun hm => ?_, nodup_map hn.2 fun a ha b hb => hf a (List.mem_cons_of_mem _ ha) b (List.mem_cons_of_mem _ hb)⟩
    obtain ⟨y, hy, e⟩ := List.mem_map.1 hm
    have := hf y (List.mem_cons_of_mem _ hy) x (by simp) e
    exact hn.1 (this ▸ hy)
end Go.Proofs.YtnmgjpcooncjlaaGreat

/- law12: a copied rule exports the same; the walk of CollectKeeps. -/
set_option linter.unusedVariables false
set_option linter.unusedSimpArgs false
namespace Go.Proofs.YtnmgjpcooncjlaaGreat
open Go.Den

variable {w0 w : World} {Ω : List Ob} {T : List ET} {p p2 : Addr} {ids : List Int}

theorem refs_mvr_inv (g : Grow T) (hc : Closed T ids) {y x : Int} (hy : y ∈ ids) (hx : x ∈ refs (mvr ids (eAt T y).1)) : ∃ z, z ∈ refs (eAt T y).1 ∧ x = pos ids z := by
  have hyb := hc.bound y hy
  cases g.shape hyb.1 hyb.2 with
  | letter b _ _ e => rw [e] at hx; simp [refs, mvr, mkLetter] at hx
  | pair l r _ _ _ _ _ e =>
    rw [e] at hx ⊢
    have : x = pos ids l ∨ x = pos ids r := by simpa [refs, mvr, mkPair] using hx
    rcases this with rfl | rfl
    · exact ⟨l, by simp [refs, mkPair], rfl⟩
    · exact ⟨r, by simp [refs, mkPair], rfl⟩
  | power a k _ _ _ _ e =>
    rw [e] at hx ⊢
    have : x = pos ids a := by simpa [refs, mvr, mkPower] using hx
    exact ⟨a, by simp [refs, mkPower], this⟩
theorem rch_in (g : Grow T) (hc : Closed T ids) {a x : Int} (ha : a ∈ ids) (h : Rch T [a] x) : x ∈ ids := by
  induction h with
  | root h1 _ => simp at h1; subst h1; exact ha
  | ref _ h2 ih =>
    obtain ⟨k, hk⟩ := List.getElem?_of_mem ih
    obtain ⟨j, _, hj, _⟩ := hc.ref g hk h2
    exact List.mem_of_getElem? hj
theorem known_one (hc : Closed T ids) {a : Int} (ha : a ∈ ids) : Known_ T [a] := fun x hx => by
  simp at hx; subst hx
  have := hc.bound _ ha
  omega
theorem pos_pos (hc : Closed T ids) {x : Int} (hx : x ∈ ids) : ∃ k : Nat, ids[k]? = some x ∧ pos ids x = (k : Int) + 1 := by
  obtain ⟨k, hk⟩ := List.getElem?_of_mem hx
  exact ⟨k, hk, pos_some hc.nodup hk⟩
theorem rlist_copy_one (g : Grow T) (hc : Closed T ids) {a : Int} (ha : a ∈ ids) : rlist (YtnmgjpcooncjlaaGreat.copy T ids) [pos ids a] = (rlist T [a]).map (pos ids) := by
  have gc := copy_grow g hc
  have hk1 := known_one hc ha
  have hk2 : Known_ (YtnmgjpcooncjlaaGreat.copy T ids) [pos ids a] := by
    have := copy_known (S := [a]) hc
    simpa using this
  have ha0 : a ≠ 0 := fun e => by have := (hc.bound a ha).1; omega
  obtain ⟨ka, hka, hpa⟩ := pos_pos hc ha
  refine sorted_unique rlist_sorted ?_ fun x => ?_
  · rw [List.pairwise_map]
    refine (rlist_sorted (T := T) (S := [a])).imp_of_mem fun {x y} hx hy hlt => ?_
    obtain ⟨i, hi, ei⟩ := pos_pos hc (rch_in g hc ha ((rlist_mem g hk1).1 hx))
    obtain ⟨j, hj, ej⟩ := pos_pos hc (rch_in g hc ha ((rlist_mem g hk1).1 hy))
    have := (sorted_lt hc.sorted hi hj).1 hlt
    rw [ei, ej]; omega
  · rw [rlist_mem gc hk2, List.mem_map]
    constructor
    · intro h
      induction h with
      | root h1 _ =>
        simp at h1
        exact ⟨a, (rlist_mem g hk1).2 (.root (by simp) ha0), h1.symm⟩
      | @ref y x h1 h2 ih =>
        obtain ⟨y', hy', rfl⟩ := ih
        have hr := (rlist_mem g hk1).1 hy'
        have hyi := rch_in g hc ha hr
        obtain ⟨k, hk, ek⟩ := pos_pos hc hyi
        rw [ek, eAt_copy hk] at h2
        obtain ⟨z, hz, rfl⟩ := refs_mvr_inv g hc hyi h2
        exact ⟨z, (rlist_mem g hk1).2 (.ref hr hz), rfl⟩
    · rintro ⟨y, hy, rfl⟩
      have hr := (rlist_mem g hk1).1 hy
      clear hy
      induction hr with
      | root h1 _ =>
        simp at h1
        subst h1
        exact .root (by simp) (by rw [hpa]; omega)
      | @ref y x h1 h2 ih =>
        have hyi := rch_in g hc ha h1
        obtain ⟨k, hk, ek⟩ := pos_pos hc hyi
        refine .ref ih ?_
        rw [ek, eAt_copy hk]
        exact refs_mvr g hc hyi h2
theorem exp_copy_one (g : Grow T) (hc : Closed T ids) {a : Int} (ha : a ∈ ids) : exp (YtnmgjpcooncjlaaGreat.copy T ids) (rlist (YtnmgjpcooncjlaaGreat.copy T ids) [pos ids a]) = exp T (rlist T [a]) := by
  rw [rlist_copy_one g hc ha]
  have hk1 := known_one hc ha
  have hcL := rlist_closed g hk1
  have hsub : ∀ x ∈ rlist T [a], x ∈ ids := fun x hx => rch_in g hc ha ((rlist_mem g hk1).1 hx)
  generalize rlist T [a] = L at *
  have hnd : (L.map (pos ids)).Nodup := nodup_map hcL.nodup fun x hx y hy e => pos_inj hc (Or.inr (hsub x hx)) (Or.inr (hsub y hy)) e
  have key : ∀ z, z = 0 ∨ z ∈ L → pos (L.map (pos ids)) (pos ids z) = pos L z := fun z hz => by
    rcases hz with rfl | hz
    · rw [pos_zero hc, pos_zero hcL]
      refine pos_none fun h => ?_
      obtain ⟨x, hx, e⟩ := List.mem_map.1 h
      obtain ⟨k, _, ek⟩ := pos_pos hc (hsub x hx)
      omega
    · obtain ⟨k, hk⟩ := List.getElem?_of_mem hz
      rw [pos_some hcL.nodup hk, pos_some hnd (by rw [List.getElem?_map, hk]; rfl)]
  unfold exp
  rw [List.map_map]
  refine List.map_congr_left fun y hy => ?_
  obtain ⟨k, hk, ek⟩ := pos_pos hc (hsub y hy)
  have hr := refs_mem g hcL hy
  show mvr (L.map (pos ids)) (eAt (YtnmgjpcooncjlaaGreat.copy T ids) (pos ids y)).1 = _
  rw [ek, eAt_copy hk]
  simp only [mvr]
  rw [key _ hr.1, key _ hr.2]
end Go.Proofs.YtnmgjpcooncjlaaGreat
