/- Texts that belong together, joined: AccN. No conditions. -/
import Derived.Test.YtcmncfglcjcmhaaGreatGT
/- top: WholeAccess. UNDER WAY. -/
set_option linter.unusedVariables false
set_option linter.unusedSimpArgs false
namespace Go.Proofs.YtcmncfglcjcmhaaGreat
open Go.Den

variable {w0 w : World} {Ω : List Ob} {most : Int} {T : List ET} {p : Addr}

theorem top_WholeAccess_spec {lsl : Sl} {list : List MkT} {from_ n : Int} (hv : View yevergreentop_Make w0 lsl list) (ho : ∀ o ∈ list, (mkText o).size ≤ 9223372036854775807) {K : Bool → World → Prop} (h : ∀ w', Ext w0 w' → K true w') : C_top_WholeAccess lsl from_ n K w0 := by
  apply S_top_WholeAccess
  unfold F_top_WholeAccess
  refine top_stands_spec (Sp.init w0) fun w1 s => gd_f rfl (top_begin_spec s (fun w' s => hv.ext s.ext) ho fun p isl tsl ids ts T w2 hb s => gd_f rfl ?_)
  have hil := (s.view 0 rfl).len
  have hsz := hb.ok.1
  have hlen := hb.tr.len
  have g := hb.grow
  refine loop_by (fun x => x.1) ids.length (fun _ _ w => Sp w0 [own (.int .i64) isl ids, own .str tsl ts, sto p 1048576 T] w) rfl s ?_
  clear s
  rintro k ⟨_, _⟩ w3 hn rfl s _
  dsimp only
  refine gd_dec (fun c => ?_) (fun c => h _ s.ext)
  have hk' : k < ids.length := by omega
  have hgi : ids[k]? = some ids[k] := List.getElem?_eq_getElem hk'
  have hgt : ts[k]? = some (ts[k]'(by omega)) := List.getElem?_eq_getElem (by omega)
  have ht400 := hb.ok.2 _ (List.mem_of_getElem? hgt)
  obtain ⟨d, nd⟩ := hb.tr.at_ k _ _ hgi hgt
  generalize ids[k] = id at hgi nd
  generalize (ts[k]'(by omega)) = t at hgt ht400 nd
  refine ⟨fun _ w => Sp w0 [own (.int .i64) isl ids, own .str tsl ts, sto p 1048576 T] w, ?_, fun _ w s _ => arith_i64 (by omega) (by omega) (loop_nx hk' s)⟩
  have hts : (txt T id) = bytesOf t := nd.txt
  have hl : (txt T id).length = t.size := by rw [hts]; exact bytesOf_len t
  refine (s.view 1 rfl).idx rfl hgt rfl fun q hq => ⟨t, hq, arith_i64 (by omega) (by omega) (top_at_spec (by omega) (by omega) ?_)⟩
  have hf := atN_bound (k := from_) (n := (t.size : Int) + 1) (by omega)
  generalize atN from_ ((t.size : Int) + 1) = f at hf
  refine arith_i64 (by omega) (by omega) (arith_i64 (by omega) (by omega) (top_at_spec (by omega) (by omega) ?_))
  have hm := atN_bound (k := n) (n := (t.size : Int) - f + 1) (by omega)
  generalize atN n ((t.size : Int) - f + 1) = m at hm
  refine arith_i64 (by omega) (by omega) ⟨fun x e => by cases e; omega, fun x e => by cases e; dsimp only; omega, ?_⟩
  dsimp only
  have hb1 : bytesOf (t.extract f.toNat (f + m).toNat) = sub (txt T id) f.toNat m.toNat := by
    rw [bytesOf_extract, hts]; unfold sub; congr 1; omega
  generalize t.extract f.toNat (f + m).toNat = part at hb1
  have hpl : part.size = m.toNat := by
    have := congrArg List.length hb1
    rw [bytesOf_len] at this
    unfold sub at this
    rw [List.length_take, List.length_drop] at this
    omega
  have nle := nd.le
  have n0 := nd.pos
  refine (s.view 0 rfl).idx rfl hgi rfl fun q1 hq1 => ⟨id, hq1, access_Extract_sp s 2 rfl ⟨n0, nle⟩ ⟨hf.1, hm.1, by omega⟩ (by omega) fun es w4 s => ?_⟩
  refine (s.view 1 rfl).idx rfl hgi rfl fun q2 hq2 => ⟨id, hq2, access_Weight_sp s 3 rfl ⟨n0, nle⟩ ⟨hf.1, hm.1, by omega⟩ fun w5 s => s.allocK fun a22 w6 s => s.st0 0 rfl rfl rfl fun w7 s => ?_⟩
  refine (s.view 2 rfl).idx rfl hgi rfl fun q3 hq3 => ⟨id, hq3, access_Count_sp s 4 rfl ⟨n0, nle⟩ ⟨hf.1, hm.1, by omega⟩ fun w8 s => ?_⟩
  rw [← hb1] at s
  have hca : ∀ j : Nat, j ≤ part.size → cntA ((bytesOf part).take j) ≤ j := fun j hj => by
    have := (cntA_le ((bytesOf part).take j)).2
    rw [List.length_take] at this; omega
  refine loop_by (fun x => x.2.1) part.size (fun j x w => x.1 = cntA ((bytesOf part).take j) ∧ Sp w0 [cel a22 (cells yapi_Weight (wOf (bytesOf part))), own (.int .u8) es (bytesOf part), own (.int .i64) isl ids, own .str tsl ts, sto p 1048576 T] w) rfl ⟨rfl, s⟩ ?_
  clear s
  rintro j ⟨cnt, _, _⟩ w9 hj rfl ⟨rfl, s⟩ _
  dsimp only
  refine gd_dec (fun c => ?_) (fun c => ?_)
  · have hj' : j < part.size := by omega
    have hgb := bytesOf_get part hj'
    have et : (bytesOf part).take (j + 1) = (bytesOf part).take j ++ [((part[j].toNat : Nat) : Int)] := by rw [List.take_add_one, hgb]; rfl
    have h1 := hca j hj
    have h0 := (cntA_le ((bytesOf part).take j)).1
    refine ⟨fun x w => x.1 = cntA ((bytesOf part).take (j + 1)) ∧ Sp w0 [cel a22 (cells yapi_Weight (wOf (bytesOf part))), own (.int .u8) es (bytesOf part), own (.int .i64) isl ids, own .str tsl ts, sto p 1048576 T] w, ?_, ?_⟩
    · refine ⟨Int.natCast_nonneg _, hj', gd_eq (fun c => arith_i64 (by omega) (by omega) ⟨?_, s⟩) (fun c => ⟨?_, s⟩)⟩
      · rw [et, cntA_append, cntA_one, if_pos (show ((part[j].toNat : Nat) : Int) = 97 from c)]
      · rw [et, cntA_append, cntA_one, if_neg (show ¬ ((part[j].toNat : Nat) : Int) = 97 from c)]; exact (Int.add_zero _).symm
    · rintro ⟨z, _⟩ w10 ⟨e, s⟩ _
      dsimp only at e
      subst e
      exact arith_i64 (by omega) (by omega) (loop_nx hj' ⟨rfl, s⟩)
  have ej : j = part.size := by omega
  subst ej
  have etk : (bytesOf part).take part.size = bytesOf part := List.take_of_length_le (by rw [bytesOf_len]; omega)
  rw [etk]
  refine JoinP.inl (s.drawK fun w10 s => nilIfc_nil (gd_f rfl (nilIfc_nil (gd_f rfl (nilIfc_nil (gd_f rfl (toStr (s.view 1 rfl) ?_)))))))
  rw [bstr_bytesOf]
  refine gd_f (by simp) (s.ld0 (ty := yapi_Weight) (x := wOf (bytesOf part)) 0 rfl rfl (toBytes s part fun bsl w11 hcap s => ⟨s.at_ 1 rfl, ?_⟩))
  refine weight_Of_spec (bytesOf_range part) (by rw [bytesOf_len]; omega) s (fun w' Ω' s => s.vw_ Ω'.length (by rw [List.getElem?_append_right (Nat.le_refl _), Nat.sub_self]; rfl)) fun w12 s => ⟨s.at_ 1 rfl, weight_neq (gd_f (by simp) ?_)⟩
  intro _
  rw [← hb1]
  refine gd_f (by simp) (gd_eq (fun c => s.drop 3) (fun c => ?_))
  have s : Sp w0 [own (.int .i64) isl ids, own .str tsl ts, sto p 1048576 T] w12 := s.drop 3
  have hft : f < (t.size : Int) := by omega
  refine (s.view 0 rfl).idx rfl hgi rfl fun q4 hq4 => ⟨id, hq4, access_At_sp s 2 rfl ⟨n0, nle⟩ hf.1 (by omega) fun b1 w13 hb1' s => ?_⟩
  have hfb := bytesOf_get t (i := f.toNat) (by omega)
  rw [hts, hfb] at hb1'
  cases hb1'
  refine (s.view 0 rfl).idx rfl hgi rfl fun q5 hq5 => ⟨id, hq5, access_Path_sp s 2 rfl ⟨n0, nle⟩ hf.1 (by omega) fun psl path last b2 w14 hp0 hpl hpn hlast hle hb2 s => ?_⟩
  rw [hts, hfb] at hb2
  cases hb2
  have hpv := (s.view 0 rfl).len
  have hpos : 1 ≤ path.length := (List.getElem?_eq_some_iff.1 hp0).1
  have hgl : path[path.length - 1]? = some last := by rw [← hpl, List.getLast?_eq_getElem?]
  have hdp := (hb.grow.at_ n0 nle).2
  have hroom := hb.room
  refine (s.view 1 rfl).idx rfl hgi rfl fun q6 hq6 => ⟨id, hq6, intern_Depth_k s 3 rfl ⟨n0, nle⟩ fun w15 s => JoinP.inl (s.drawK fun w16 s => nilIfc_nil (gd_f rfl (nilIfc_nil (gd_f rfl (nilIfc_nil (gd_f rfl ⟨hf.1, by omega, gd_f (by simp) (gd_f (by simp; omega) (arith_i64 (by omega) (by omega) (gd_f (by simp; omega) ((s.view 0 rfl).idx (n := 0) rfl hp0 rfl fun q7 hq7 => ⟨id, hq7, (s.view 1 rfl).idx rfl hgi rfl fun q8 hq8 => ⟨id, hq8, ?_⟩⟩))))⟩))))))⟩
  intro _
  refine gd_f (by simp) (arith_i64 (by dsimp only; omega) (by dsimp only; omega) ((s.view 0 rfl).idx (n := path.length - 1) (by dsimp only; omega) hgl rfl fun q9 hq9 => ⟨last, hq9, intern_Rule_k s 3 rfl hlast fun w17 s => s.allocK fun a65 w18 s => s.st0 0 rfl rfl rfl fun w19 s => JoinP.inl (s.drawK fun w20 s => nilIfc_nil (gd_f rfl (s.ld0 (ty := yapi_Rule) (x := (eAt T last).1) 0 rfl rfl ⟨hf.1, by omega, rule_neq (y := (1, ((t[f.toNat]'(by omega)).toNat : Int), 0, 0, 0)) ?_⟩)))⟩))
  intro _
  rw [hle]
  exact gd_f (by simp) (s.drop 2)

end Go.Proofs.YtcmncfglcjcmhaaGreat
