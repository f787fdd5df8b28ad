/- Texts that belong together, joined: WlkH. No conditions. -/
import Derived.Test.YtcmncfglcjcmhaaGreatGI
import Derived.Test.YtcmncfglcjcmhaaGreatGT
import Derived.Test.YtcmncfglcjcmhaaGreatGF
/- top: WholeWalks. -/
set_option linter.unusedVariables false
set_option linter.unusedSimpArgs false
namespace Go.Proofs.YtcmncfglcjcmhaaGreat
open Go.Den

variable {w0 w : World} {Ω : List Ob} {most : Int} {T : List ET} {p : Addr}

theorem pre_at {t done : List Int} {c : Int} (h : (done ++ [c]) <+: t) : t[done.length]? = some c ∧ done.length < t.length := by
  obtain ⟨u, hu⟩ := h
  subst hu
  refine ⟨?_, by simp⟩
  rw [List.append_assoc, List.getElem?_append_right (Nat.le_refl _), Nat.sub_self]
  rfl
theorem pre_sub {t done a : List Int} (h : (done ++ a) <+: t) : sub t done.length a.length = a ∧ done.length + a.length ≤ t.length := by
  obtain ⟨u, hu⟩ := h
  subst hu
  refine ⟨?_, by simp only [List.length_append]; omega⟩
  unfold sub
  rw [List.append_assoc, List.drop_left, List.take_left]
theorem sub_sub_of {t : List Int} {F M j n : Nat} (h : j + n ≤ M) : sub (sub t F M) j n = sub t (F + j) n := by
  unfold sub
  rw [List.drop_take, List.take_take, List.drop_drop, Nat.min_eq_left (by omega)]

theorem top_WholeWalks_spec {lsl : Sl} {list : List MkT} {from_ n : Int} (hv : View yevergreentop_Make w0 lsl list) (ho : ∀ o ∈ list, (mkText o).size ≤ 9223372036854775807) {K : Bool → World → Prop} (h : ∀ w', Ext w0 w' → K true w') : C_top_WholeWalks lsl from_ n K w0 := by
  apply S_top_WholeWalks
  unfold F_top_WholeWalks
  refine Sp.allocK (cs := [.bool false]) (Sp.init w0) fun a1 w1 s => top_stands_spec s fun w2 s => gd_f rfl (top_begin_spec s (fun w' s => hv.ext s.ext) ho fun p isl tsl ids ts T w3 hb s => ?_)
  have hil := (s.view 0 rfl).len
  have htl := (s.view 1 rfl).len
  have hsz := hb.ok.1
  have hlen := hb.tr.len
  have g := hb.grow
  refine s.allocK fun a5 w4 s => s.st0 0 rfl rfl rfl fun w5 s => ?_
  refine ⟨fun z w => (z.1 = false → ids ≠ []) ∧ Sp w0 [cel a5 [.pointer (some p)], own (.int .i64) isl ids, own .str tsl ts, sto p 1048576 T, cel a1 [.bool false]] w, gd_f rfl ⟨fun e => ?_, s⟩, ?_⟩
  · intro he
    dsimp only at e
    rw [he] at hil
    rw [hil] at e
    simp at e
  clear s
  rintro ⟨z, _⟩ w6 ⟨hz, s⟩ _
  dsimp only at hz ⊢
  cases z with
  | true => exact gd_t rfl (s.st0 4 rfl rfl rfl fun w7 s => s.ldb0 4 rfl rfl (h _ s.ext))
  | false => ?_
  have hne := hz rfl
  refine gd_f rfl ?_
  have hl1 : 1 ≤ ids.length := List.length_pos_iff.2 hne
  have hgi : ids[ids.length - 1]? = some (ids[ids.length - 1]'(by omega)) := List.getElem?_eq_getElem (by omega)
  have hgt : ts[ids.length - 1]? = some (ts[ids.length - 1]'(by omega)) := List.getElem?_eq_getElem (by omega)
  have ht400 := hb.ok.2 _ (List.mem_of_getElem? hgt)
  obtain ⟨d, nd⟩ := hb.tr.at_ _ _ _ hgi hgt
  generalize (ids[ids.length - 1]'(by omega)) = id at hgi nd
  generalize (ts[ids.length - 1]'(by omega)) = t at hgt ht400 nd
  have hts : (txt T id) = bytesOf t := nd.txt
  have hl : (txt T id).length = t.size := by rw [hts]; exact bytesOf_len t
  have nle := nd.le
  have n0 := nd.pos
  have hwl := g.len n0 nle
  refine s.drawK fun w7 s => arith_i64 (by omega) (by omega) (Sp.elem s 1 rfl (n := ids.length - 1) (by omega) (by omega) fun q hq => ⟨id, Sp.elAt s 1 rfl hq hgi, arith_i64 (by omega) (by omega) (Sp.elem s 2 rfl (n := ids.length - 1) (by omega) (by omega) fun q2 hq2 => ⟨t, Sp.elAt s 2 rfl hq2 hgt, ?_⟩)⟩)
  refine s.allocK fun a15 w8 s => ⟨Sp.elAt s 3 rfl hq2 hgt, Sp.elAt s 2 rfl hq hgi, s.st0 0 rfl rfl rfl fun w9 s => s.ld0 (ty := .str) (x := t) 0 rfl rfl (arith_i64 (by omega) (by omega) (top_at_spec (by omega) (by omega) ?_))⟩
  have hf := atN_bound (k := from_) (n := (t.size : Int) + 1) (by omega)
  generalize atN from_ ((t.size : Int) + 1) = f at hf
  obtain ⟨F, rfl⟩ : ∃ F : Nat, f = F := ⟨f.toNat, by omega⟩
  have hF : F ≤ t.size := by omega
  refine s.allocK fun a19 w10 s => s.st0 0 rfl rfl rfl fun w11 s => s.ldp0 2 rfl rfl ?_
  have s := s.pick [0, 1, 2, 5, 6] 7 rfl (by decide)
  change Sp w0 [cel a19 [.int .i64 F], cel a15 [.string t], cel a5 [.pointer (some p)], sto p 1048576 T, cel a1 [.bool false]] w11 at s
  refine range_Letters (Qv := fun done Ωv => Ωv = [cel a19 [.int .i64 ((F : Int) + done.length)], cel a15 [.string t], cel a5 [.pointer (some p)], sto p 1048576 T, cel a1 [.bool false]]) s 3 ⟨n0, nle⟩ ⟨by omega, by omega⟩ (by rintro _ _ rfl; rfl) (by simp) ?_ ?_
  · rintro l r c done _ o1 o2 o3 o4 o5 o6 o7 w12 K2 hpre rfl s hK
    obtain ⟨hg, hlt⟩ := pre_at hpre
    rw [hts, Int.toNat_natCast, List.length_drop, bytesOf_len] at hlt
    rw [hts, Int.toNat_natCast, List.getElem?_drop, bytesOf_get t (by omega)] at hg
    refine s.busy 6 rfl fun w13 s => JoinP.inl (s.ldi0 8 rfl rfl (gd_f (by simp) (s.ldi0 8 rfl rfl (s.ld0 (ty := .str) (x := t) 9 rfl rfl (gd_f (decide_eq_false (by omega)) (s.ld0 (ty := .str) (x := t) 9 rfl rfl (s.ldi0 8 rfl rfl ⟨by omega, by omega, ?_⟩)))))))
    intro _
    refine gd_f ?_ (s.ldi0 8 rfl rfl (arith_i64 (by omega) (by omega) (s.st0 8 rfl rfl rfl fun w14 s => s.endR 6 rfl fun w15 s => hK _ w15 ?_ s)))
    · have e : ((F : Int) + (done.length : Int)).toNat = F + done.length := by omega
      simp only [e]
      cases hg
      simp
    · rw [List.length_append, List.length_singleton, Int.natCast_add, ← Int.add_assoc]; rfl
  · clear s
    rintro wr1 _ w12 rfl s
    have e1 : (F : Int) + (((txt T id).drop ((F : Int)).toNat).length : Int) = (t.size : Int) := by rw [List.length_drop, Int.toNat_natCast]; omega
    rw [e1] at s
    refine s.ldi0 1 rfl rfl (s.ld0 (ty := .str) (x := t) 2 rfl rfl (gd_f (by simp) (s.st0 1 rfl rfl rfl fun w13 s => s.ldp0 3 rfl rfl ?_)))
    refine range_Back (Qv := fun done Ωv => Ωv = [df wr1.heap.size, cel a19 [.int .i64 ((F : Int) - done.length)], cel a15 [.string t], cel a5 [.pointer (some p)], sto p 1048576 T, cel a1 [.bool false]]) s 4 ⟨n0, nle⟩ ⟨by omega, by omega⟩ (by rintro _ _ rfl; rfl) (by simp) ?_ ?_
    · clear s
      rintro l r c done _ o1 o2 o3 o4 o5 o6 o7 w14 K2 hpre rfl s hK
      obtain ⟨hg, hlt⟩ := pre_at hpre
      rw [hts, Int.toNat_natCast, List.length_reverse, List.length_take, bytesOf_len] at hlt
      rw [hts, Int.toNat_natCast, List.getElem?_reverse (by rw [List.length_take, bytesOf_len]; omega), List.length_take, bytesOf_len, Nat.min_eq_left hF, List.getElem?_take_of_lt (by omega), bytesOf_get t (by omega)] at hg
      refine s.busy 6 rfl fun w15 s => s.ldi0 9 rfl rfl (arith_i64 (by omega) (by omega) (s.st0 9 rfl rfl rfl fun w16 s => JoinP.inl (s.ldi0 9 rfl rfl (gd_f (by simp) (s.ldi0 9 rfl rfl (gd_f (decide_eq_false (by omega)) (s.ld0 (ty := .str) (x := t) 10 rfl rfl (s.ldi0 9 rfl rfl ⟨by omega, by omega, ?_⟩))))))))
      intro _
      refine gd_f ?_ (s.endR 6 rfl fun w17 s => hK _ w17 ?_ s)
      · have e : ((F : Int) - (done.length : Int) - 1).toNat = F - 1 - done.length := by omega
        simp only [e]
        cases hg
        simp
      · rw [List.length_append, List.length_singleton, Int.natCast_add, ← Int.sub_sub]; rfl
    · clear s
      rintro wr2 _ w14 rfl s
      have e2 : (F : Int) - ((((txt T id).take ((F : Int)).toNat).reverse).length : Int) = 0 := by rw [List.length_reverse, List.length_take, Int.toNat_natCast]; omega
      rw [e2] at s
      refine s.ldi0 2 rfl rfl (gd_f (by simp) (s.ld0 (ty := .str) (x := t) 3 rfl rfl (arith_i64 (by omega) (by omega) (arith_i64 (by omega) (by omega) (top_at_spec (by omega) (by omega) ?_)))))
      have hm := atN_bound (k := n) (n := (t.size : Int) - F + 1) (by omega)
      generalize atN n ((t.size : Int) - F + 1) = m at hm
      obtain ⟨M, rfl⟩ : ∃ M : Nat, m = M := ⟨m.toNat, by omega⟩
      refine arith_i64 (by omega) (by omega) (s.allocK fun a61 w15 s => s.st0 0 rfl rfl rfl fun w16 s => s.st0 3 rfl rfl rfl fun w17 s => s.ldp0 5 rfl rfl (s.ldi0 0 rfl rfl (arith_i64 (by omega) (by omega) ?_)))
      rw [show (F : Int) + (M : Int) - (F : Int) = (((F + M : Nat) : Int)) - (F : Int) from rfl]
      refine range_Pieces (Qv := fun done Ωv => Ωv = [cel a61 [.int .i64 ((F : Int) + M)], df wr2.heap.size, df wr1.heap.size, cel a19 [.int .i64 ((F : Int) + done.length)], cel a15 [.string t], cel a5 [.pointer (some p)], sto p 1048576 T, cel a1 [.bool false]]) s 6 ⟨n0, nle⟩ nd.even ⟨?_⟩ (by omega) (by omega) (by rintro _ _ rfl; rfl) (by simp) ?_ ?_
      · by_cases c : id = 0
        · exact .inl c
        · exact .inr ⟨_, _, nd.nd c⟩
      · clear s
        rintro l r x done _ o1 o2 o3 o4 o5 o6 o7 o8 w18 K2 hx hpre rfl s hK
        rw [Nat.add_sub_cancel_left] at hpre
        obtain ⟨hsb, hle⟩ := pre_sub hpre
        have hsl : (sub (txt T id) F M).length = M := by unfold sub; rw [List.length_take, List.length_drop]; omega
        rw [hsl] at hle
        rw [sub_sub_of hle] at hsb
        have hwx := g.len (id := x) (by omega) hx.2
        have hbx := (g.at_ (id := x) (by omega) hx.2).1.len
        have hpx := (g.at_ (id := x) (by omega) hx.2).2.2.2 hx.1
        refine s.busy 7 rfl fun w19 s => s.ldp0 14 rfl rfl (intern_Weight_k s 15 rfl ⟨by omega, hx.2⟩ fun w20 s => s.allocK fun a73 w21 s => s.st0 0 rfl rfl rfl fun w22 s => JoinP.inl (nilIfc_nil (gd_f rfl (s.ldi0 13 rfl rfl (gd_f (by simp) (s.ldi (x := (eAt T x).2.1.1) 0 0 rfl rfl (gd_f (decide_eq_false (by omega)) (s.ldi (x := (eAt T x).2.1.1) 0 0 rfl rfl (s.ldi0 10 rfl rfl (s.ldi0 13 rfl rfl (arith_i64 (by omega) (by omega) ?_)))))))))))
        intro _
        refine gd_f (decide_eq_false (by omega)) (s.ldp0 15 rfl rfl (s.ldi (x := (eAt T x).2.1.1) 0 0 rfl rfl (access_Extract_sp s 16 rfl ⟨by omega, hx.2⟩ ⟨by omega, by omega, by omega⟩ (by omega) fun es w23 s => ?_)))
        refine JoinP.inl (s.drawK fun w24 s => nilIfc_nil (gd_f rfl (s.ld0 (ty := .str) (x := t) 15 rfl rfl (s.ldi0 14 rfl rfl (s.ldi0 14 rfl rfl (s.ldi (x := (eAt T x).2.1.1) 1 0 rfl rfl (arith_i64 (by omega) (by omega) ⟨fun y e => (by cases e; omega), fun y e => (by cases e; dsimp only; omega), ?_⟩)))))))
        dsimp only
        refine toStr (s.view 0 rfl) ⟨s.still 1 0 rfl rfl, s.at_ 14 rfl, s.at_ 14 rfl, s.at_ 15 rfl, ?_⟩
        intro _
        have ex : sub (txt T x) ((0 : Int)).toNat (eAt T x).2.1.1.toNat = txt T x := by
          unfold sub
          rw [hwx, Int.toNat_natCast]
          exact List.take_length
        refine gd_f ?_ (s.ldi0 14 rfl rfl (s.ldi (x := (eAt T x).2.1.1) 1 0 rfl rfl (arith_i64 (by omega) (by omega) (s.st0 14 rfl rfl rfl fun w25 s => ?_))))
        · rw [ex]
          have eb : bstr (txt T x) = t.extract ((F : Int) + (done.length : Int)).toNat ((F : Int) + (done.length : Int) + (eAt T x).2.1.1).toNat := by
            have q1 : ((F : Int) + (done.length : Int)).toNat = F + done.length := by omega
            have q2 : ((F : Int) + (done.length : Int) + (eAt T x).2.1.1).toNat - (F + done.length) = (txt T x).length := by omega
            rw [← bstr_bytesOf (t.extract _ _), bytesOf_extract, ← hts, q1, q2]
            congr 1
            exact hsb.symm
          rw [eb]
          simp
        · have s := s.drop 2
          refine Sp.endR s 7 rfl fun w26 s => hK _ w26 ?_ s
          rw [List.length_append, Int.natCast_add, ← Int.add_assoc, ← hwx]; rfl
      · clear s
        rintro wr3 _ w18 rfl s
        have e3 : (F : Int) + ((sub (txt T id) F (F + M - F)).length : Int) = (F : Int) + M := by unfold sub; rw [List.length_take, List.length_drop]; omega
        rw [e3] at s
        refine s.ldi0 4 rfl rfl (s.ldi0 1 rfl rfl (s.st0 8 rfl rfl rfl fun w19 s => ?_))
        rw [beq_self_eq_true] at s
        exact s.shut 0 rfl fun w20 s => s.shut 2 rfl fun w21 s => s.shut 3 rfl fun w22 s => s.ldb0 8 rfl rfl (h _ s.ext)

end Go.Proofs.YtcmncfglcjcmhaaGreat
