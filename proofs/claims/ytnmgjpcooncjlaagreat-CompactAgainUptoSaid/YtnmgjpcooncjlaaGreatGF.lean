/- Texts that belong together, joined: CpD, CpE, Beg, BegB, CompA, CompB, CpF, InpR. No conditions. -/
import Derived.Test.YtnmgjpcooncjlaaGreatRows
import Derived.Deep.Strs
import Derived.JoinedCond
import Derived.ProofKit
import Derived.Test.YtnmgjpcooncjlaaGreatGD
import Derived.Test.YtnmgjpcooncjlaaGreatGE
import Derived.Test.YtnmgjpcooncjlaaGreatGB
/- law51: what compaction begins with (compact.Keep with a bad target, compact.texts), and its report (compact.Saved). -/
set_option linter.unusedVariables false
set_option linter.unusedSimpArgs false
namespace Go.Proofs.YtnmgjpcooncjlaaGreat
open Go.Den

variable {w0 w : World} {Ω : List Ob} {i a b c a' b' g t r : Nat} {p : Addr} {most : Int} {T : List ET} {csl : Sl} {cs : List CM} {C : List CT} {m : List (ByteArray × TG)} {S : List Int}

/-- a store, a graph and a table, side by side -/
structure CW (Ω : List Ob) (i a b c a' b' : Nat) (p : Addr) (most : Int) (T : List ET) (g : Nat) (csl : Sl) (cs : List CM) (C : List CT) (t r : Nat) (m : List (ByteArray × TG)) (S : List Int) : Prop where
  hi : Ω[i]? = some (sto p most T)
  G : Gh Ω a b c g csl cs C
  R : Rt Ω a' b' t r m
  ok : COK C
  hC : C.length < 60000
  hm : m.length ≤ 2000000
  hS : ∀ z : Int, z ∈ S ↔ ∃ p ∈ m, p.2.1 = z
  hS0 : ∀ z ∈ S, 0 ≤ z
theorem CW.cons {o : Ob} (W : CW Ω i a b c a' b' p most T g csl cs C t r m S) : CW (o :: Ω) (i + 1) (a + 1) (b + 1) (c + 1) (a' + 1) (b' + 1) p most T g csl cs C t r m S :=
  ⟨W.hi, W.G.cons, W.R.cons, W.ok, W.hC, W.hm, W.hS, W.hS0⟩

/-! ### Texts of the kept -/
noncomputable def hL (C : List CT) (S : List Int) (N : Nat) : List (Ty.int .i64).T := (kl C S 0 N).map fun z => (C.getD z.toNat cz).2.1
theorem hL_len (N : Nat) : (hL C S N).length = (kl C S 0 N).length := by simp [hL]
theorem hL_at {N k : Nat} {z : Int} (h : (kl C S 0 N)[k]? = some z) : (hL C S N)[k]? = some (C.getD z.toNat cz).2.1 := by
  unfold hL
  rw [List.getElem?_map, h]; rfl
theorem hL_mem {x : Int} (N : Nat) (hN : N ≤ C.length) : x ∈ hL C S N ↔ ∃ (n : Nat) (d : CT), n < N ∧ An C S n ∧ C[n]? = some d ∧ d.2.1 = x := by
  unfold hL
  rw [List.mem_map]
  constructor
  · rintro ⟨z, hz, rfl⟩
    obtain ⟨n, rfl, h1, _, h3⟩ := kl_mem.1 hz
    have hd := List.getElem?_eq_getElem (l := C) (i := n) (by omega)
    refine ⟨n, _, h1, h3, hd, ?_⟩
    rw [Int.toNat_natCast, List.getD_eq_getElem?_getD, hd]; rfl
  · rintro ⟨n, d, h1, h2, h3, rfl⟩
    refine ⟨n, kl_mem.2 ⟨n, rfl, h1, Nat.zero_le _, h2⟩, ?_⟩
    rw [Int.toNat_natCast, List.getD_eq_getElem?_getD, h3]; rfl
def TexOK (T : List ET) (C : List CT) (S : List Int) : Prop := ∀ (n : Nat) (d : CT), An C S n → C[n]? = some d → d.2.1 ≤ (T.length : Int)
def Fine (T : List ET) (C : List CT) (S : List Int) : Prop := (∀ z ∈ S, z < (C.length : Int)) ∧ TexOK T C S
theorem An.lt (hw : WFC C) (hSb : ∀ z ∈ S, z < (C.length : Int)) {n : Nat} (h : An C S n) : n < C.length := by
  induction h with
  | root h1 => have := hSb _ h1; omega
  | @ref y x d h1 h2 h3 ih => have := (hw y d h2).2 _ h3; omega
theorem hL_known (hw : COK C) (hF : TexOK T C S) : Known_ T (hL C S C.length) := fun x hx => by
  obtain ⟨n, d, h1, h2, h3, rfl⟩ := (hL_mem C.length (Nat.le_refl _)).1 hx
  exact ⟨(hw n d h3).text, hF n d h2 h3⟩

theorem compact_Keep_bad (W : CW Ω i a b c a' b' p most T g csl cs C t r m S) (s : Sp w0 Ω w) (hbad : ∃ z ∈ S, (C.length : Int) ≤ z) {K : Sl × Value → World → Prop}
    (h : ∀ w', Sp w0 Ω w' → K (⟨none, 0, 0⟩, errV 1) w') : C_compact_Keep (some ⟨g, 0, none⟩) (some ⟨t, 0, none⟩) K w := by
  have hC := W.hC
  have hm := W.hm
  apply S_compact_Keep
  unfold F_compact_Keep
  refine JoinP.inl (gd_f rfl ?_)
  intro _
  refine gd_f rfl (history_Len_spec W.G s ⟨by omega, by omega, by omega, by omega, s.mkS .bool false C.length C.length (Nat.le_refl _) (fun a4 w1 s => ?_) rfl (by rw [Int.toNat_natCast]; rfl)⟩)
  rw [Int.toNat_natCast]
  refine refs_Targets_spec W.R.cons s hm fun sl5 ys w2 hys hyl s => ?_
  have hyS : ∀ z : Int, z ∈ ys ↔ z ∈ S := fun z => (hys z).trans (W.hS z).symm
  have hyl5 := (s.vw_ 0 rfl).len
  refine loop_by (fun x => x.1) ys.length (fun n _ w => ∃ inl : List Ty.bool.T, inl.length = C.length ∧ (∀ z : Int, z ∈ ys.take n → z < (C.length : Int)) ∧ Sp w0 (vw (.int .i64) sl5 ys :: own .bool ⟨some ⟨a4, 0, none⟩, C.length, C.length⟩ inl :: Ω) w) rfl ⟨_, by simp, by simp, s⟩ ?_
  clear s
  rintro n ⟨x, _⟩ w3 hn hx ⟨inl, hil, hlt, s⟩ _
  dsimp only at hx ⊢
  subst hx
  refine gd_dec (fun hlt2 => ?_) (fun hge => ?_)
  · have hn' : n < ys.length := by omega
    have hget := List.getElem?_eq_getElem hn'
    have hz0 := W.hS0 _ ((hyS _).1 (List.getElem_mem hn'))
    generalize ys[n] = z at hget hz0
    refine (s.vw_ 0 rfl).idx rfl hget rfl fun q hq => ⟨z, hq, gd_dec (fun c1 => h _ (s.drop 2)) (fun c1 => s.setI 1 rfl (n := z.toNat) (y := true) (by omega) (by omega) fun w4 s => arith_i64 (by omega) (by omega) (loop_nx hn' ⟨_, by rw [List.length_set]; exact hil, fun u hu => ?_, s⟩))⟩
    rw [List.take_add_one, hget, Option.toList_some, List.mem_append, List.mem_singleton] at hu
    rcases hu with hu | rfl
    · exact hlt u hu
    · omega
  · have en : n = ys.length := by omega
    subst en
    rw [List.take_length] at hlt
    obtain ⟨z, hz, hz2⟩ := hbad
    have := hlt z ((hyS z).2 hz)
    omega

theorem compact_texts_sp (W : CW Ω i a b c a' b' p most T g csl cs C t r m S) (s : Sp w0 Ω w) {K : Sl × Sl × Value → World → Prop}
    (h1 : Fine T C S → ∀ lsl isl w', Sp w0 (own (.int .i64) isl (hL C S C.length) :: own (.int .i64) lsl (kl C S 0 C.length) :: Ω) w' → K (lsl, isl, .nilIface) w')
    (h2 : ¬ Fine T C S → ∀ w', Sp w0 Ω w' → K (⟨none, 0, 0⟩, ⟨none, 0, 0⟩, errV 1) w') : C_compact_texts (some p) (some ⟨g, 0, none⟩) (some ⟨t, 0, none⟩) K w := by
  apply S_compact_texts
  unfold F_compact_texts
  have hC := W.hC
  have hm := W.hm
  refine gd_f rfl ?_
  by_cases hSb : ∀ z ∈ S, z < (C.length : Int)
  rotate_left
  · refine compact_Keep_bad W s ?_ fun w1 s => nilIfc_err (gd_t rfl (h2 (fun h => hSb h.1) _ s))
    apply Classical.byContradiction
    intro hno
    exact hSb fun z hz => by
      apply Classical.byContradiction
      intro hlt
      exact hno ⟨z, hz, by omega⟩
  refine compact_Keep_spec W.G W.R s W.ok.wf (by omega) hm W.hS (fun z hz => ⟨W.hS0 z hz, hSb z hz⟩) fun lsl w1 s => nilIfc_nil (gd_f rfl ?_)
  dsimp only
  have hkl := kl_len (C := C) (S := S) 0 C.length
  have hll := (s.view 0 rfl).len
  have hNt : ((lsl.len : Int)).toNat = (kl C S 0 C.length).length := by omega
  have hhl := hL_len (C := C) (S := S) C.length
  refine ⟨by omega, by omega, by omega, by omega, s.mkS (.int .i64) (0 : Int) (kl C S 0 C.length).length (kl C S 0 C.length).length (Nat.le_refl _) (fun a3 w2 s => ?_) rfl (by rw [hNt]; rfl)⟩
  rw [hNt]
  refine loop_by (fun x => x.1) (kl C S 0 C.length).length (fun n _ w => (∀ x : Int, x ∈ (hL C S C.length).take n → x ≤ (T.length : Int)) ∧ Sp w0 (own (.int .i64) ⟨some ⟨a3, 0, none⟩, (kl C S 0 C.length).length, (kl C S 0 C.length).length⟩ ((hL C S C.length).take n ++ List.replicate ((kl C S 0 C.length).length - n) (0 : Int)) :: own (.int .i64) lsl (kl C S 0 C.length) :: Ω) w) rfl ⟨by simp, by rw [List.take_zero, List.nil_append]; exact s⟩ ?_
  clear s
  rintro n ⟨x, _⟩ w3 hn hx ⟨hle, s⟩ _
  dsimp only at hx ⊢
  subst hx
  refine gd_dec (fun hlt => ?_) (fun hge => ?_)
  · have hn' : n < (kl C S 0 C.length).length := by omega
    have hget := List.getElem?_eq_getElem hn'
    generalize (kl C S 0 C.length)[n] = z at hget
    obtain ⟨k, rfl, k1, k2, k3⟩ := rk_of hget
    obtain ⟨d, hd⟩ : ∃ d, C[k]? = some d := ⟨_, List.getElem?_eq_getElem k1⟩
    have hdo := W.ok k d hd
    have hd8 := hdo.few
    have hdt := hdo.text
    have hh : (hL C S C.length)[n]? = some d.2.1 := by rw [hL_at hget, Int.toNat_natCast, List.getD_eq_getElem?_getD, hd]; rfl
    obtain ⟨_, _, _, hb0, hb1, hb2, hg⟩ := Sp.entry s (i + 2) W.cons.cons.hi
    refine (s.view 1 rfl).idx rfl hget rfl fun q hq => ⟨_, hq, history_Get_spec W.cons.cons.G s rfl hd (by omega) fun ps w4 s => s.allocK fun a9 w5 s => s.st0 0 rfl rfl rfl fun w6 s => nilIfc_nil (gd_f rfl (JoinP.inl (s.drawK fun w8 s => s.ldi (x := d.2.1) 0 1 rfl rfl (gd_f (decide_eq_false (by omega)) (s.ldi (x := d.2.1) 0 1 rfl rfl (intern_Len_sp s (i + 4) W.hi ⟨s.still 0 1 rfl rfl, ?_⟩))))))⟩
    intro _
    refine gd_dec (fun hgt => h2 (fun hF => ?_) _ (s.drop 4)) (fun hng => ?_)
    · have := hF.2 k d k2 hd
      omega
    · refine s.ldi (x := d.2.1) 0 1 rfl rfl (s.setI 2 rfl (n := n) (y := d.2.1) rfl (by rw [List.length_append, List.length_take, List.length_replicate]; omega) fun w9 s => arith_i64 (by omega) (by omega) (loop_nx hn' ⟨fun x hx => ?_, ?_⟩))
      · rw [List.take_add_one, hh, Option.toList_some, List.mem_append, List.mem_singleton] at hx
        rcases hx with hx | rfl
        · exact hle x hx
        · omega
      · have e : ((hL C S C.length).take n ++ List.replicate ((kl C S 0 C.length).length - n) (0 : Int)).set n d.2.1 = (hL C S C.length).take (n + 1) ++ List.replicate ((kl C S 0 C.length).length - (n + 1)) (0 : Int) := by
          have hl : ((hL C S C.length).take n).length = n := by rw [List.length_take]; omega
          rw [List.set_append_right _ _ (by omega), hl, Nat.sub_self]
          obtain ⟨j, hj⟩ : ∃ j, (kl C S 0 C.length).length - n = j + 1 := ⟨(kl C S 0 C.length).length - n - 1, by omega⟩
          rw [hj, List.replicate_succ, List.set_cons_zero, List.take_add_one, hh, List.append_assoc, show (kl C S 0 C.length).length - (n + 1) = j by omega]; rfl
        have s2 := s.drop 2
        have s3 : Sp w0 (own (.int .i64) ⟨some ⟨a3, 0, none⟩, (kl C S 0 C.length).length, (kl C S 0 C.length).length⟩ (((hL C S C.length).take n ++ List.replicate ((kl C S 0 C.length).length - n) (0 : Int)).set n d.2.1) :: own (.int .i64) lsl (kl C S 0 C.length) :: Ω) w9 := s2
        rw [e] at s3
        exact s3
  · have en : n = (hL C S C.length).length := by omega
    have e0 : (hL C S C.length).take n ++ List.replicate ((kl C S 0 C.length).length - n) (0 : Int) = hL C S C.length := by
      rw [en, List.take_length, hhl, Nat.sub_self]; simp
    rw [e0] at s
    rw [en, List.take_length] at hle
    refine h1 ⟨hSb, fun k d k2 hd => ?_⟩ lsl _ w3 s
    exact hle _ ((hL_mem C.length (Nat.le_refl _)).2 ⟨k, d, (List.getElem?_eq_some_iff.1 hd).1, k2, hd, rfl⟩)

theorem compact_Saved_sp (W : CW Ω i a b c a' b' p most T g csl cs C t r m S) (s : Sp w0 Ω w) {K : ycompact_Report.T × Value → World → Prop}
    (h1 : Fine T C S → ∀ w', Sp w0 Ω w' → K (((C.length : Int), (T.length : Int), ((kl C S 0 C.length).length : Int), ((rlist T (hL C S C.length)).length : Int)), .nilIface) w')
    (h2 : ¬ Fine T C S → ∀ w', Sp w0 Ω w' → K (((0 : Int), (0 : Int), (0 : Int), (0 : Int)), errV 1) w') : C_compact_Saved (some p) (some ⟨g, 0, none⟩) (some ⟨t, 0, none⟩) K w := by
  apply S_compact_Saved
  unfold F_compact_Saved
  have hC := W.hC
  have hkl := kl_len (C := C) (S := S) 0 C.length
  have hhl := hL_len (C := C) (S := S) C.length
  refine s.allocK fun a1 w1 s => compact_texts_sp W.cons s (fun hF lsl isl w2 s => nilIfc_nil (gd_f rfl ?_)) (fun hF w2 s => nilIfc_err (gd_t rfl (s.st0 0 rfl rfl rfl fun w3 s => s.ld0 (ty := ycompact_Report) (x := ((0 : Int), (0 : Int), (0 : Int), (0 : Int))) 0 rfl rfl (h2 hF _ s.pop))))
  have hll := (s.view 1 rfl).len
  refine collect_Reach_sp s (i + 3) W.hi (fun w' s => s.view 0 rfl) (by omega) (fun hk rsl w3 s => nilIfc_nil (gd_f rfl ?_)) (fun hk => absurd (hL_known W.ok hF.2) hk)
  have hrl := (s.view 0 rfl).len
  refine history_Len_spec W.cons.cons.cons.cons.G s (intern_Len_sp s (i + 4) W.hi (s.st0 3 rfl rfl rfl fun w4 s => s.ld0 (ty := ycompact_Report) (x := ((C.length : Int), (T.length : Int), (lsl.len : Int), (rsl.len : Int))) 3 rfl rfl ?_))
  rw [hll, hrl]
  exact h1 hF _ (s.drop 4)

end Go.Proofs.YtnmgjpcooncjlaaGreat

/- law51: compaction (compact.Of). -/
set_option linter.unusedVariables false
set_option linter.unusedSimpArgs false
namespace Go.Proofs.YtnmgjpcooncjlaaGreat
open Go.Den

variable {w0 w : World} {Ω : List Ob} {i a b c a' b' g t r : Nat} {p : Addr} {most : Int} {T : List ET} {csl : Sl} {cs : List CM} {C : List CT} {m : List (ByteArray × TG)} {S : List Int}

def nz (L : List Int) : List Int := L.filter fun x => decide (x ≠ 0)
theorem nz_mem {L : List Int} {x : Int} : x ∈ nz L ↔ x ∈ L ∧ x ≠ 0 := by unfold nz; rw [List.mem_filter]; simp
theorem nz_snoc (L : List Int) (x : Int) : nz (L ++ [x]) = nz L ++ (if x = 0 then [] else [x]) := by
  unfold nz
  rw [List.filter_append]
  congr 1
  by_cases c : x = 0
  · subst c; simp
  · simp [c]
theorem nz_rlist (L : List Int) : rlist T (nz L) = rlist T L := rlist_congr fun x h0 => by rw [nz_mem]; simp [h0]
theorem nz_len (L : List Int) : (nz L).length ≤ L.length := List.length_filter_le _ _
theorem kC_f {f : Int → Int} (n : Nat) : kC f C S n = (kC id C S n).map fun d => (d.1, f d.2.1, d.2.2) := by
  unfold kC
  rw [List.map_map]; rfl

theorem compact_Of_sp {top : Int} (W : CW Ω i a b c a' b' p most T g csl cs C t r m S) (s : Sp w0 Ω w) {K : Option Addr × Option Addr × Option Addr × Value → World → Prop}
    (h1 : Fine T C S → ((rlist T (hL C S C.length)).length : Int) ≤ clampM top → ∀ p2 g3 csl3 cs3 t2 r2 m2 w', cs3.map (fun x => x.2) = (kC (pos (rlist T (hL C S C.length))) C S C.length).map (fun x => x.2) → m2.Perm (m.map fun q => (q.1, (nu C S q.2.1.toNat, q.2.2))) →
      Sp w0 (sto p2 (clampM top) (YtnmgjpcooncjlaaGreat.copy T (rlist T (hL C S C.length))) :: cel g3 [.slice csl3.a csl3.len csl3.cap] :: own yapi_Commit csl3 cs3 :: ivs (cs3.map fun x => x.1) ((kC (pos (rlist T (hL C S C.length))) C S C.length).map fun x => x.1) :: cel t2 [.map (some r2)] :: ms yrefs_target r2 m2 :: Ω) w' → K (some p2, some ⟨g3, 0, none⟩, some ⟨t2, 0, none⟩, .nilIface) w')
    (h2 : Fine T C S → clampM top < ((rlist T (hL C S C.length)).length : Int) → ∀ w', Sp w0 Ω w' → K (none, none, none, errV 3) w')
    (h3 : ¬ Fine T C S → ∀ w', Sp w0 Ω w' → K (none, none, none, errV 1) w') : C_compact_Of (some p) (some ⟨g, 0, none⟩) (some ⟨t, 0, none⟩) top K w := by
  apply S_compact_Of
  unfold F_compact_Of
  have hC := W.hC
  have hm := W.hm
  have hkl := kl_len (C := C) (S := S) 0 C.length
  have hhl := hL_len (C := C) (S := S) C.length
  refine compact_texts_sp W s (fun hF lsl isl w1 s => nilIfc_nil (gd_f rfl ?_)) (fun hF w1 s => nilIfc_err (gd_t rfl (h3 hF _ s)))
  dsimp only
  have hK := hL_known W.ok hF.2
  obtain ⟨_, _, _, hb0, hb1, hb2, hg⟩ := Sp.entry s (i + 2) W.cons.cons.hi
  refine collect_New_sp s fun q r1 w2 s => ?_
  have hil := (s.view 2 rfl).len
  refine loop_by (fun x => x.1) (hL C S C.length).length (fun n _ w => ∃ mm, TH T mm (nz ((hL C S C.length).take n)) ∧ Sp w0 (cel q [.pointer (some p), .map (some r1)] :: mc (.int .i64) r1 mm :: own (.int .i64) isl (hL C S C.length) :: own (.int .i64) lsl (kl C S 0 C.length) :: Ω) w) rfl ⟨[], by rw [List.take_zero]; exact TH.nil, s⟩ ?_
  clear s
  rintro n ⟨x, _⟩ w3 hn hx ⟨mm, th, s⟩ _
  dsimp only at hx ⊢
  subst hx
  have tb : Tb (cel q [.pointer (some p), .map (some r1)] :: mc (.int .i64) r1 mm :: own (.int .i64) isl (hL C S C.length) :: own (.int .i64) lsl (kl C S 0 C.length) :: Ω) 0 1 (i + 4) q r1 p most T mm := ⟨rfl, rfl, W.hi⟩
  refine gd_dec (fun hlt => ?_) (fun hge => ?_)
  · have hn' : n < (hL C S C.length).length := by omega
    have hget := List.getElem?_eq_getElem hn'
    have hzb := hK _ (List.getElem_mem hn')
    have hl2 := nz_len ((hL C S C.length).take n)
    rw [List.length_take] at hl2
    have htk : nz ((hL C S C.length).take (n + 1)) = nz ((hL C S C.length).take n) ++ (if (hL C S C.length)[n] = 0 then [] else [(hL C S C.length)[n]]) := by
      rw [← nz_snoc, List.take_add_one, hget]; rfl
    generalize (hL C S C.length)[n] = z at hget hzb htk
    obtain ⟨zz, hzz⟩ : ∃ k : Int, k = z := ⟨z, rfl⟩
    subst hzz
    have hzb : (0 : Int) ≤ zz ∧ zz ≤ (T.length : Int) := hzb
    refine (s.view 2 rfl).idx rfl hget rfl fun q1 hq1 => ⟨zz, hq1, Table_Hold_sp tb s th.f (fun y => by have := ctN_le y (nz ((hL C S C.length).take n)); omega) (fun _ m3 w4 hf s => nilIfc_nil (gd_f rfl (arith_i64 (by omega) (by omega) (loop_nx hn' ⟨m3, ⟨fun y => ?_, fun y hy => ?_, ?_⟩, s⟩)))) (fun hno => absurd hzb hno)⟩
    · rw [hf y]
      dsimp only
      rw [htk]
      by_cases c : zz = 0
      · rw [if_pos c, List.append_nil, if_neg (fun h => h.1 c), Int.add_zero]
      · rw [if_neg c, ctN_snoc]
        congr 2
        by_cases c2 : zz = y
        · rw [if_pos c2, if_pos ⟨c, c2.symm⟩]
        · rw [if_neg c2, if_neg (fun h => c2 h.2.symm)]
    · rw [htk] at hy
      rcases List.mem_append.1 hy with hy | hy
      · exact th.nz y hy
      · by_cases c : zz = 0
        · rw [if_pos c] at hy; cases hy
        · rw [if_neg c, List.mem_singleton] at hy
          subst hy
          omega
    · have := nz_len ((hL C S C.length).take (n + 1))
      rw [List.length_take] at this
      omega
  have en : n = (hL C S C.length).length := by omega
  subst en
  rw [List.take_length] at th
  have hids := nz_rlist (T := T) (hL C S C.length)
  refine Table_Sweep_sp tb th s (fun hle p2 tosl w5 s => ?_) (fun hgt w5 s => nilIfc_err (gd_t rfl (h2 hF (by rw [hids] at hgt; exact hgt) _ (s.drop 4))))
  rw [hids] at hle s
  have hc := rlist_closed hg hK
  have hpb : ∀ x, 0 ≤ pos (rlist T (hL C S C.length)) x := fun x => (pos_bound hc x).1
  have hh1 := h1 hF hle
  clear h1 h2 h3
  have htk : ∀ x : Int, 0 ≤ x → x ≤ (T.length : Int) → (toL T.length (rlist T (hL C S C.length)))[x.toNat]? = some (pos (rlist T (hL C S C.length)) x) := fun x h0 h1 => toL_get h0 h1
  generalize rlist T (hL C S C.length) = ids at *
  refine nilIfc_nil (gd_f rfl (history_Keep_spec (S := S) (lsl := lsl) W.cons.cons.cons.cons.cons.cons.G s W.ok (by omega) (fun w' s => s.view 5 rfl) fun g2 csl2 cs2 nsl w6 hcs2 s => nilIfc_nil (gd_f rfl ?_)))
  have G2 : Gh (own (.int .i64) nsl (nuL C S C.length) :: cel g2 [.slice csl2.a csl2.len csl2.cap] :: own yapi_Commit csl2 cs2 :: ivs (cs2.map fun x => x.1) ((kC id C S C.length).map fun x => x.1) :: sto p2 (clampM top) (YtnmgjpcooncjlaaGreat.copy T ids) :: own (.int .i64) tosl (toL T.length ids) :: cel q [.pointer (some p), .map (some r1)] :: mc (.int .i64) r1 mm :: own (.int .i64) isl (hL C S C.length) :: own (.int .i64) lsl (kl C S 0 C.length) :: Ω) 1 2 3 g2 csl2 cs2 (kC id C S C.length) := ⟨rfl, rfl, rfl, hcs2⟩
  have hkc := kC_len (f := id) (C := C) (S := S) C.length
  have hkc3 := kC_len (f := pos ids) (C := C) (S := S) C.length
  have hkf := kC_f (C := C) (S := S) (f := pos ids) C.length
  have hok2 := kC_ok (S := S) (f := id) (N := C.length) W.ok
  have hok3 := kC_ok (S := S) (f := pos ids) (N := C.length) W.ok hpb (Nat.le_refl _)
  have hfin : ∀ d ∈ kC id C S C.length, 0 ≤ d.2.1 ∧ d.2.1 ≤ (T.length : Int) ∧ d.1.length ≤ 8 := fun d hd => by
    obtain ⟨k, hk⟩ := List.getElem?_of_mem hd
    obtain ⟨n, d', k1, k2, k3, k4, rfl⟩ := kC_of (Nat.le_refl _) hk
    refine ⟨(W.ok n d' k4).text, hF.2 n d' k2 k4, ?_⟩
    show (d'.1.map _).length ≤ 8
    rw [List.length_map]; exact (W.ok n d' k4).few
  generalize hD : kC id C S C.length = D at *
  generalize hE : kC (pos ids) C S C.length = E at *
  refine history_New_spec s fun g3 w7 s => history_Len_spec G2.cons.cons.cons s ?_
  refine loop_by (fun x => x.1) D.length (fun n _ w => ∃ (csl3 : Sl) (cs3 : List CM), cs3.map (fun x => x.2) = (E.take n).map (fun x => x.2) ∧ Sp w0 (cel g3 [.slice csl3.a csl3.len csl3.cap] :: own yapi_Commit csl3 cs3 :: ivs (cs3.map fun x => x.1) ((E.take n).map fun x => x.1) :: own (.int .i64) nsl (nuL C S C.length) :: cel g2 [.slice csl2.a csl2.len csl2.cap] :: own yapi_Commit csl2 cs2 :: ivs (cs2.map fun x => x.1) (D.map fun x => x.1) :: sto p2 (clampM top) (YtnmgjpcooncjlaaGreat.copy T ids) :: own (.int .i64) tosl (toL T.length ids) :: cel q [.pointer (some p), .map (some r1)] :: mc (.int .i64) r1 mm :: own (.int .i64) isl (hL C S C.length) :: own (.int .i64) lsl (kl C S 0 C.length) :: Ω) w) rfl ⟨⟨none, 0, 0⟩, [], rfl, ?_⟩ ?_
  · exact s
  clear s
  rintro n ⟨x, _⟩ w8 hn hx ⟨csl3, cs3, hcs3, s⟩ _
  dsimp only at hx ⊢
  subst hx
  refine gd_dec (fun hlt => ?_) (fun hge => ?_)
  · have hn' : n < D.length := by omega
    obtain ⟨d, hd⟩ : ∃ d, D[n]? = some d := ⟨_, List.getElem?_eq_getElem hn'⟩
    obtain ⟨f1, f2, f3⟩ := hfin d (List.mem_of_getElem? hd)
    have he : E[n]? = some (d.1, pos ids d.2.1, d.2.2) := by rw [hkf, List.getElem?_map, hd]; rfl
    have heo := hok3 n _ he
    have hel := (List.getElem?_eq_some_iff.1 he).1
    have htl : (E.take n).length = n := by rw [List.length_take]; omega
    have hsn : E.take (n + 1) = E.take n ++ [(d.1, pos ids d.2.1, d.2.2)] := by rw [List.take_add_one, he]; rfl
    refine history_Get_spec G2.cons.cons.cons s rfl hd (by omega) fun ps w9 s => s.allocK fun a20 w10 s => s.st0 0 rfl rfl rfl fun w11 s => nilIfc_nil (gd_f rfl (s.ldi (x := d.2.1) 0 1 rfl rfl ((s.view 10 rfl).idx (n := d.2.1.toNat) (by omega) (htk _ f1 f2) rfl fun q2 hq2 => ⟨_, hq2, s.st 0 1 rfl rfl rfl fun w12 s => s.ld0 (ty := yapi_Commit) (x := (ps, pos ids d.2.1, d.2.2)) 0 rfl rfl ?_⟩)))
    have G3 : Gh (cel a20 (cells yapi_Commit (ps, pos ids d.2.1, d.2.2)) :: own (.int .i64) ps d.1 :: cel g3 [.slice csl3.a csl3.len csl3.cap] :: own yapi_Commit csl3 cs3 :: ivs (cs3.map fun x => x.1) ((E.take n).map fun x => x.1) :: own (.int .i64) nsl (nuL C S C.length) :: cel g2 [.slice csl2.a csl2.len csl2.cap] :: own yapi_Commit csl2 cs2 :: ivs (cs2.map fun x => x.1) (D.map fun x => x.1) :: sto p2 (clampM top) (YtnmgjpcooncjlaaGreat.copy T ids) :: own (.int .i64) tosl (toL T.length ids) :: cel q [.pointer (some p), .map (some r1)] :: mc (.int .i64) r1 mm :: own (.int .i64) isl (hL C S C.length) :: own (.int .i64) lsl (kl C S 0 C.length) :: Ω) 2 3 4 g3 csl3 cs3 (E.take n) := ⟨rfl, rfl, rfl, hcs3⟩
    have s : Sp w0 (cel a20 (cells yapi_Commit (ps, pos ids d.2.1, d.2.2)) :: own (.int .i64) ps d.1 :: cel g3 [.slice csl3.a csl3.len csl3.cap] :: own yapi_Commit csl3 cs3 :: ivs (cs3.map fun x => x.1) ((E.take n).map fun x => x.1) :: own (.int .i64) nsl (nuL C S C.length) :: cel g2 [.slice csl2.a csl2.len csl2.cap] :: own yapi_Commit csl2 cs2 :: ivs (cs2.map fun x => x.1) (D.map fun x => x.1) :: sto p2 (clampM top) (YtnmgjpcooncjlaaGreat.copy T ids) :: own (.int .i64) tosl (toL T.length ids) :: cel q [.pointer (some p), .map (some r1)] :: mc (.int .i64) r1 mm :: own (.int .i64) isl (hL C S C.length) :: own (.int .i64) lsl (kl C S 0 C.length) :: Ω) w12 := s
    refine history_Add_spec (psl := ps) (d := (d.1, pos ids d.2.1, d.2.2)) G3 s (by decide) (by decide) (by decide) (by rw [htl]; exact heo) (by omega) (fun w' s => s.view 1 rfl) (s.own_ 1 rfl).cap fun csl' cs' ts w13 s hts hcs' => nilIfc_nil (gd_f rfl (arith_i64 (by omega) (by omega) (loop_nx hn' ⟨csl', cs', ?_, ?_⟩)))
    · rw [hsn, List.map_append, hcs']; rfl
    · subst hts
      rw [hsn, List.map_append]
      exact s.pick [3, 4, 0, 6, 7, 8, 9, 10, 11, 12, 13, 14, 15] 16 rfl (by decide)
  · have en : n = E.length := by omega
    subst en
    rw [List.take_length] at hcs3 s
    refine refs_Move_spec (to := nuL C S C.length) (fun z => nu C S z.toNat) (R := W.cons.cons.cons.cons.cons.cons.cons.cons.cons.cons.cons.cons.cons.R) s hm (fun w' s => s.view 3 rfl) (fun pp hpp => ?_) fun t2 r2 m2 w9 hp2 s => nilIfc_nil (gd_f rfl (hh1 p2 g3 csl3 cs3 t2 r2 m2 w9 hcs3 hp2 (s.pick [9, 2, 3, 4, 0, 1] 15 rfl (by decide))))
    have hz : pp.2.1 ∈ S := (W.hS _).2 ⟨pp, hpp, rfl⟩
    have hz0 : (0 : Int) ≤ pp.2.1 := W.hS0 _ hz
    have hz1 := hF.1 _ hz
    have ha : An C S pp.2.1.toNat := .root (by rw [show ((pp.2.1.toNat : Nat) : Int) = pp.2.1 by omega]; exact hz)
    refine ⟨hz0, nuL_get (by omega), ?_⟩
    have e := nu_yes ha
    have := rk_nn (C := C) (S := S) pp.2.1.toNat
    show 0 ≤ nu C S pp.2.1.toNat
    omega

end Go.Proofs.YtnmgjpcooncjlaaGreat

/- law51: what the statements begin with, in plain lists: parents, commits, names. -/
set_option linter.unusedVariables false
set_option linter.unusedSimpArgs false
namespace Go.Proofs.YtnmgjpcooncjlaaGreat
open Go.Den

/-! ### The parents of a commit -/
def pk (n : Nat) (acc : List Int) (p : Int) : List Int := if 0 < n ∧ acc.length < 8 then (if pickN p n ∈ acc then acc else acc ++ [pickN p n]) else acc
def parsOf (n : Nat) (ps : List Int) : List Int := ps.foldl (pk n) []
def PO (n : Nat) (acc : List Int) : Prop := acc.length ≤ 8 ∧ acc.Nodup ∧ ∀ q ∈ acc, 0 ≤ q ∧ q < (n : Int)
theorem PO.step {n : Nat} {acc : List Int} (h : PO n acc) (p : Int) : PO n (pk n acc p) := by
  unfold pk
  by_cases c : 0 < n ∧ acc.length < 8
  · rw [if_pos c]
    by_cases c2 : pickN p n ∈ acc
    · rw [if_pos c2]; exact h
    · rw [if_neg c2]
      refine ⟨by rw [List.length_append]; simp only [List.length_cons, List.length_nil]; omega, ?_, fun q hq => ?_⟩
      · rw [List.nodup_append]
        exact ⟨h.2.1, by simp, fun x hx y hy => by simp at hy; subst hy; exact fun e => c2 (e ▸ hx)⟩
      · rcases List.mem_append.1 hq with hq | hq
        · exact h.2.2 q hq
        · simp at hq
          subst hq
          exact pickN_bound (by omega)
  · rw [if_neg c]; exact h
theorem parsOf_ok (n : Nat) (ps : List Int) : PO n (parsOf n ps) := by
  have key : ∀ (ps acc : List Int), PO n acc → PO n (ps.foldl (pk n) acc) := by
    intro ps
    induction ps with
    | nil => intro acc h; exact h
    | cons p ps ih => intro acc h; exact ih _ (h.step p)
  exact key ps [] ⟨by simp, List.nodup_nil, by simp⟩
theorem parsOf_take {n k : Nat} {ps : List Int} {p : Int} (h : ps[k]? = some p) : parsOf n (ps.take (k + 1)) = pk n (parsOf n (ps.take k)) p := by
  unfold parsOf
  rw [List.take_add_one, h, Option.toList_some, List.foldl_append]; rfl

/-! ### Commits -/
abbrev IC := List Int × Int
def cAt (res : List Int) (k : Nat) (x : IC) : CT := (parsOf k x.1, rsAt res x.2, nameB k)
def CB (res : List Int) (ic : List IC) (n : Nat) : List CT := (List.range n).map fun k => cAt res k (ic.getD k ([], 0))
theorem CB_len (res : List Int) (ic : List IC) (n : Nat) : (CB res ic n).length = n := by simp [CB]
theorem CB_succ {res : List Int} {ic : List IC} {n : Nat} {x : IC} (h : ic[n]? = some x) : CB res ic (n + 1) = CB res ic n ++ [cAt res n x] := by
  unfold CB
  rw [List.range_succ, List.map_append, List.map_singleton, List.getD_eq_getElem?_getD, h]; rfl
theorem CB_get {res : List Int} {ic : List IC} {n k : Nat} (h : k < n) : (CB res ic n)[k]? = some (cAt res k (ic.getD k ([], 0))) := by
  unfold CB
  rw [List.getElem?_map, List.getElem?_range h]; rfl
theorem CB_wf (res : List Int) (ic : List IC) (n : Nat) : WFC (CB res ic n) := fun k d hd => by
  have hk := (List.getElem?_eq_some_iff.1 hd).1
  rw [CB_len] at hk
  rw [CB_get hk] at hd
  cases hd
  have := parsOf_ok k (ic.getD k ([], 0)).1
  exact ⟨this.1, this.2.2⟩
theorem cAt_ok {T : List ET} {res : List Int} (h1 : 1 ≤ res.length) (hk : KnownAll T res) (n : Nat) (x : IC) : AddOK n (cAt res n x) := by
  have h := parsOf_ok n x.1
  refine ⟨h.1, ?_, ?_, h.2.2, h.2.1⟩
  · show (nameB n).size ≤ 200
    have : (nameB n).size = 3 := bstr_size _
    omega
  · obtain ⟨_, _, _, hm⟩ := rsAt_get h1 x.2
    exact (hk _ hm).1

/-! ### Names -/
abbrev IN := Bool × Int
def toN (N : Nat) (x : IN) : Int := pickN x.2 N
def mN (N : Nat) (ns : List IN) (n : Nat) : List (ByteArray × TG) := (List.range n).map fun i => (nameB i, (toN N (ns.getD i (false, 0)), (ns.getD i (false, 0)).1))
def tN (N : Nat) (ns : List IN) (n : Nat) : List (Ty.int .i64).T := (List.range n).map fun i => toN N (ns.getD i (false, 0))
def wN (n : Nat) : List Ty.str.T := (List.range n).map nameB
theorem mN_len (N : Nat) (ns : List IN) (n : Nat) : (mN N ns n).length = n := by simp [mN]
theorem tN_len (N : Nat) (ns : List IN) (n : Nat) : (tN N ns n).length = n := by simp [tN]
theorem wN_len (n : Nat) : (wN n).length = n := by simp [wN]
theorem mN_succ {N : Nat} {ns : List IN} {n : Nat} {x : IN} (h : ns[n]? = some x) : mN N ns (n + 1) = mN N ns n ++ [(nameB n, (toN N x, x.1))] := by
  unfold mN
  rw [List.range_succ, List.map_append, List.map_singleton, List.getD_eq_getElem?_getD, h]; rfl
theorem tN_succ {N : Nat} {ns : List IN} {n : Nat} {x : IN} (h : ns[n]? = some x) : tN N ns (n + 1) = tN N ns n ++ [toN N x] := by
  unfold tN
  rw [List.range_succ, List.map_append, List.map_singleton, List.getD_eq_getElem?_getD, h]; rfl
theorem wN_succ (n : Nat) : wN (n + 1) = wN n ++ [nameB n] := by
  unfold wN
  rw [List.range_succ, List.map_append, List.map_singleton]
theorem tN_mem (N : Nat) (ns : List IN) (n : Nat) (z : Int) : z ∈ tN N ns n ↔ ∃ p ∈ mN N ns n, p.2.1 = z := by
  unfold tN mN
  simp only [List.mem_map]
  constructor
  · rintro ⟨i, hi, rfl⟩
    exact ⟨_, ⟨i, hi, rfl⟩, rfl⟩
  · rintro ⟨_, ⟨i, hi, rfl⟩, rfl⟩
    exact ⟨i, hi, rfl⟩
theorem tN_bound {N : Nat} (hN : 1 ≤ N) (ns : List IN) (n : Nat) : ∀ z : Int, z ∈ tN N ns n → 0 ≤ z ∧ z < (N : Int) := fun z hz => by
  unfold tN at hz
  obtain ⟨i, _, rfl⟩ := List.mem_map.1 hz
  exact pickN_bound (by omega)
theorem mN_new (N : Nat) (ns : List IN) {n : Nat} (hn : n < 100) : atS? (mN N ns n) (nameB n) = none := by
  rw [atS_none]
  intro h
  obtain ⟨p, hp, e⟩ := List.mem_map.1 h
  unfold mN at hp
  obtain ⟨i, hi, rfl⟩ := List.mem_map.1 hp
  have hi := List.mem_range.1 hi
  have := nameB_inj (by omega) hn e
  omega
theorem mupdS_new {α : Type} : ∀ {m : List (ByteArray × α)} {x : ByteArray} {v : α}, atS? m x = none → mupdS m x v = m ++ [(x, v)]
  | [], _, _, _ => rfl
  | p :: m, x, v, h => by
    simp only [atS?] at h
    split at h
    · cases h
    · rename_i hne
      simp only [mupdS, if_neg hne, mupdS_new h, List.cons_append]
theorem mdelS_snoc {α : Type} : ∀ {m : List (ByteArray × α)} {x : ByteArray} {v : α}, atS? m x = none → mdelS (m ++ [(x, v)]) x = m
  | [], x, v, _ => by simp [mdelS]
  | p :: m, x, v, h => by
    simp only [atS?] at h
    split at h
    · cases h
    · rename_i hne
      simp only [List.cons_append, mdelS, if_neg hne, mdelS_snoc h]
theorem atS_snoc {α : Type} : ∀ {m : List (ByteArray × α)} {x : ByteArray} {v : α}, atS? m x = none → atS? (m ++ [(x, v)]) x = some v
  | [], x, v, _ => by simp [atS?]
  | p :: m, x, v, h => by
    simp only [atS?] at h
    split at h
    · cases h
    · rename_i hne
      simp only [List.cons_append, atS?, if_neg hne, atS_snoc h]

end Go.Proofs.YtnmgjpcooncjlaaGreat

/- law51: the walk of begun. -/
set_option linter.unusedVariables false
set_option linter.unusedSimpArgs false
namespace Go.Proofs.YtnmgjpcooncjlaaGreat
open Go.Den

variable {w0 w : World} {Ω : List Ob}

/-- what an input's commits read -/
structure CmOK (w : World) (cms : List yevergreenlaw51_Commit.T) (ic : List IC) : Prop where
  len : cms.length = ic.length
  at_ : ∀ (k : Nat) (c : yevergreenlaw51_Commit.T), cms[k]? = some c → ∃ y, ic[k]? = some y ∧ View (.int .i64) w c.1 y.1 ∧ c.2 = y.2 ∧ y.1.length ≤ 90
def wld (p : Addr) (g t : Nat) (m : yevergreenref12_Store.T) (par tex nam tgt : Sl) : List Value :=
  [.pointer (some p), .pointer (some ⟨g, 0, none⟩), .pointer (some ⟨t, 0, none⟩), .slice m.1.a m.1.len m.1.cap, .slice m.2.a m.2.len m.2.cap, .slice par.a par.len par.cap, .slice tex.a tex.len tex.cap, .slice nam.a nam.len nam.cap, .slice tgt.a tgt.len tgt.cap]
def begO (p : Addr) (g t r a5 a1 : Nat) (x : yevergreenlaw51_Input.T) (m : yevergreenref12_Store.T) (T : List ET) (res : List (Ty.int .i64).T) (rs csl parSl texSl : Sl) (cts pts : List Sl) (cs : List CM) (C : List CT) (Ω : List Ob) : List Ob :=
  ivs cts (C.map fun x => x.1) :: cel g [.slice csl.a csl.len csl.cap] :: own yapi_Commit csl cs :: ivs pts (C.map fun x => x.1) :: own .slice parSl pts :: own (.int .i64) texSl (C.map fun x => x.2.1) :: cel a5 (wld p g t m parSl texSl ⟨none, 0, 0⟩ ⟨none, 0, 0⟩) :: cel t [.map (some r)] :: ms yrefs_target r [] :: own (.int .i64) rs res :: cel a1 (cells yevergreenlaw51_Input x) :: sto p 1000 T :: rf2 m T :: Ω
def begE (p : Addr) (g t r a5 a1 : Nat) (x : yevergreenlaw51_Input.T) (m : yevergreenref12_Store.T) (T : List ET) (res : List (Ty.int .i64).T) (rs csl parSl texSl namSl tgtSl : Sl) (cts pts : List Sl) (cs : List CM) (C : List CT) (ns : List IN) (k : Nat) (Ω : List Ob) : List Ob :=
  ivs cts (C.map fun x => x.1) :: cel g [.slice csl.a csl.len csl.cap] :: own yapi_Commit csl cs :: ivs pts (C.map fun x => x.1) :: own .slice parSl pts :: own (.int .i64) texSl (C.map fun x => x.2.1) :: cel a5 (wld p g t m parSl texSl namSl tgtSl) :: cel t [.map (some r)] :: ms yrefs_target r (mN C.length ns k) :: own (.int .i64) rs res :: cel a1 (cells yevergreenlaw51_Input x) :: sto p 1000 T :: rf2 m T :: own .str namSl (wN k) :: own (.int .i64) tgtSl (tN C.length ns k) :: Ω
theorem law51_begun_spec {x : yevergreenlaw51_Input.T} {ops : List MakeT} {cms : List yevergreenlaw51_Commit.T} {ic : List IC} {ns : List yevergreenlaw51_Name.T} (s : Sp w0 Ω w) (hvL : View yevergreenref12_Make w0 x.1 ops) (ho : ∀ o ∈ ops, MakeOK o) (hN : ops.length ≤ 90) (hvC : View yevergreenlaw51_Commit w0 x.2.1 cms) (hcm : CmOK w0 cms ic) (hcl : ic.length ≤ 90) (hvN : View yevergreenlaw51_Name w0 x.2.2 ns) (hnl : ns.length ≤ 90) {K : Option Addr × Bool → World → Prop}
    (h : ∀ (p : Addr) (g t r a5 a1 : Nat) (m : yevergreenref12_Store.T) (T : List ET) (res : List (Ty.int .i64).T) (rs csl parSl texSl namSl tgtSl : Sl) (pts : List Sl) (cs : List CM) (w' : World), BldOK 1000 T res ops.length → cs.map (fun x => x.2) = (CB res ic ic.length).map (fun x => x.2) →
      Sp w0 (begE p g t r a5 a1 x m T res rs csl parSl texSl namSl tgtSl (cs.map fun x => x.1) pts cs (CB res ic ic.length) ns (if ic.length = 0 then 0 else ns.length) Ω) w' → K (some ⟨a5, 0, none⟩, true) w') : C_law51_begun x K w := by
  apply S_law51_begun
  unfold F_law51_begun
  have hlC := hvC.len
  refine s.allocK fun a1 w1 s => intern_New_sp s fun p w2 s => history_New_spec s fun g w3 s => refs_New_spec s fun t r w4 s => s.allocK fun a5 w5 s => s.drawK fun w6 s => nonNil_some ?_
  have s : Sp w0 (cel a5 (wld p g t (⟨none, 0, 0⟩, ⟨none, 0, 0⟩) ⟨none, 0, 0⟩ ⟨none, 0, 0⟩ ⟨none, 0, 0⟩ ⟨none, 0, 0⟩) :: cel t [.map (some r)] :: ms yrefs_target r [] :: cel g [.slice none 0 0] :: own yapi_Commit ⟨none, 0, 0⟩ [] :: ivs [] [] :: sto p 1000 [] :: cel a1 (cells yevergreenlaw51_Input x) :: Ω) w6 := s
  refine s.ldp (x := some p) 0 0 rfl rfl (s.lds (x := x.1) 7 0 rfl rfl (law12_Build_spec s 6 rfl (hvL) ho (by omega) (by omega) fun rs w7 s => ?_))
  have s : Sp w0 (own (.int .i64) rs (bld 1000 ops).2 :: cel a5 (wld p g t (⟨none, 0, 0⟩, ⟨none, 0, 0⟩) ⟨none, 0, 0⟩ ⟨none, 0, 0⟩ ⟨none, 0, 0⟩ ⟨none, 0, 0⟩) :: cel t [.map (some r)] :: ms yrefs_target r [] :: cel g [.slice none 0 0] :: own yapi_Commit ⟨none, 0, 0⟩ [] :: ivs [] [] :: sto p 1000 (bld 1000 ops).1 :: cel a1 (cells yevergreenlaw51_Input x) :: Ω) w7 := s
  refine JoinP.inl (gd_f rfl (nonNil_some (s.ldp (x := some ⟨g, 0, none⟩) 1 1 rfl rfl (gd_f rfl (nonNil_some (s.ldp (x := some ⟨t, 0, none⟩) 1 2 rfl rfl ?_))))))
  intro _
  refine gd_f rfl (s.lds (x := x.1) 8 0 rfl rfl (ref12_Build_spec (most := 1000) s hvL ho (by omega) (by omega) fun m rs' w8 s => nonNil_some (s.st 3 3 rfl rfl rfl fun w9 s => ?_)))
  have s : Sp w0 (own (.int .i64) rs' (bld 1000 ops).2 :: rf2 m (bld 1000 ops).1 :: own (.int .i64) rs (bld 1000 ops).2 :: cel a5 (wld p g t m ⟨none, 0, 0⟩ ⟨none, 0, 0⟩ ⟨none, 0, 0⟩ ⟨none, 0, 0⟩) :: cel t [.map (some r)] :: ms yrefs_target r [] :: cel g [.slice none 0 0] :: own yapi_Commit ⟨none, 0, 0⟩ [] :: ivs [] [] :: sto p 1000 (bld 1000 ops).1 :: cel a1 (cells yevergreenlaw51_Input x) :: Ω) w9 := s
  have hb := bld_ok (most := 1000) (by decide) ho
  generalize (bld 1000 ops).1 = T at *
  generalize (bld 1000 ops).2 = res at *
  have hg := hb.grow
  have hkn := hb.known
  have hc := hb.cnt
  refine s.lds (x := x.2.1) 10 1 rfl rfl ?_
  have s := Sp.ivs0 ((s.nil .slice).nil (.int .i64))
  have s : Sp w0 (begO p g t r a5 a1 x m T res rs ⟨none, 0, 0⟩ ⟨none, 0, 0⟩ ⟨none, 0, 0⟩ [] [] [] [] Ω) w9 := s.pick [11, 9, 10, 0, 2, 1, 6, 7, 8, 5, 13, 12, 4] 14 rfl (by decide)
  refine loop_by (fun x => x.1) ic.length (fun n _ w => ∃ (csl parSl texSl : Sl) (cts pts : List Sl) (cs : List CM), cts = cs.map (fun x => x.1) ∧ cs.map (fun x => x.2) = (CB res ic n).map (fun x => x.2) ∧ Sp w0 (begO p g t r a5 a1 x m T res rs csl parSl texSl cts pts cs (CB res ic n) Ω) w) rfl ⟨⟨none, 0, 0⟩, ⟨none, 0, 0⟩, ⟨none, 0, 0⟩, [], [], [], rfl, rfl, s⟩ ?_
  rintro n ⟨x', _⟩ w10 hn hx ⟨csl, parSl, texSl, cts, pts, cs, hcts, hcs, s⟩ _
  dsimp only at hx ⊢
  subst hx
  subst hcts
  have hCl := CB_len res ic n
  refine gd_dec (fun hlt => ?_) (fun hge => ?_)
  · have hn' : n < ic.length := by have := hcm.len; omega
    obtain ⟨c, hget⟩ : ∃ c, cms[n]? = some c := ⟨_, List.getElem?_eq_getElem (by have := hcm.len; omega)⟩
    obtain ⟨y, hy, hvy, hy2, hyl⟩ := hcm.at_ n c hget
    have hvl := hvy.len
    have hok := cAt_ok (res := res) (by omega) hkn n y
    refine (hvC.ext s.ext).idx rfl hget rfl fun q hq => ⟨c, hq, s.allocK fun a24 w11 s => s.st0 0 rfl rfl rfl fun w12 s => s.lds (x := c.1) 0 0 rfl rfl ?_⟩
    generalize hLO : begO p g t r a5 a1 x m T res rs csl parSl texSl (cs.map fun x => x.1) pts cs (CB res ic n) Ω = LO at s
    refine loop_by (fun x => x.2.1) y.1.length (fun k z w => Sp w0 (own (.int .i64) z.1 (parsOf n (y.1.take k)) :: cel a24 (cells yevergreenlaw51_Commit c) :: LO) w) rfl (s.nil _) ?_
    rintro k ⟨acl, z, _⟩ w13 hk hz s _
    dsimp only at hz s ⊢
    subst hz
    refine gd_dec (fun hlt2 => ?_) (fun hge2 => ?_)
    · have hk' : k < y.1.length := by omega
      have hgp := List.getElem?_eq_getElem hk'
      generalize y.1[k] = pp at hgp
      have hpt := parsOf_take (n := n) hgp
      have hpo := parsOf_ok n (y.1.take k)
      generalize parsOf n (y.1.take k) = acc at hpt hpo s
      have hacl := (s.view 0 rfl).len
      refine ⟨fun z w => Sp w0 (own (.int .i64) z.1 (parsOf n (y.1.take (k + 1))) :: cel a24 (cells yevergreenlaw51_Commit c) :: LO) w, (hvy.ext s.ext).idx rfl hgp rfl fun q hq => ⟨pp, hq, ?_⟩, fun z w s _ => arith_i64 (by omega) (by omega) (loop_nx hk' s)⟩
      rw [hpt]
      unfold pk
      refine ⟨fun z w => z.1 = decide (0 < n ∧ acc.length < 8) ∧ Sp w0 (own (.int .i64) acl acc :: cel a24 (cells yevergreenlaw51_Commit c) :: LO) w, gd_dec (fun c1 => ⟨?_, s⟩) (fun c1 => ⟨?_, s⟩), ?_⟩
      · dsimp only; rw [decide_eq_decide]; omega
      · dsimp only; rw [decide_eq_false (by omega)]
      rintro ⟨z, _⟩ w14 ⟨hz, s⟩ _
      dsimp only at hz ⊢
      subst hz
      refine gd_dec (fun c1 => ?_) (fun c1 => by rw [if_neg c1]; exact s)
      rw [if_pos c1]
      refine ref12_Pick_eq (by omega) (by omega) ?_
      refine loop_by (fun x => x.2.1) acc.length (fun j z w => z.1 = decide (pickN pp n ∈ acc.take j) ∧ Sp w0 (own (.int .i64) acl acc :: cel a24 (cells yevergreenlaw51_Commit c) :: LO) w) rfl ⟨by simp, s⟩ ?_
      rintro j ⟨is, z, _⟩ w15 hj hz ⟨his, s⟩ _
      dsimp only at hz his ⊢
      subst hz his
      refine gd_dec (fun hlt3 => ?_) (fun hge3 => ?_)
      · have hj' : j < acc.length := by omega
        have hgj := List.getElem?_eq_getElem hj'
        generalize acc[j] = u at hgj
        have htk : acc.take (j + 1) = acc.take j ++ [u] := by rw [List.take_add_one, hgj]; rfl
        refine ⟨fun z w => z.1 = decide (pickN pp n ∈ acc.take (j + 1)) ∧ Sp w0 (own (.int .i64) acl acc :: cel a24 (cells yevergreenlaw51_Commit c) :: LO) w, (s.view 0 rfl).idx rfl hgj rfl fun q hq => ⟨u, hq, gd_dec (fun c2 => ⟨?_, s⟩) (fun c2 => ⟨?_, s⟩)⟩, fun z w h _ => arith_i64 (by omega) (by omega) (loop_nx hj' h)⟩
        · dsimp only; rw [htk, decide_eq_true (List.mem_append_left _ c2)]
        · dsimp only
          rw [htk, Bool.eq_iff_iff, beq_iff_eq, decide_eq_true_eq, List.mem_append, List.mem_singleton]
          exact ⟨Or.inr, fun h => h.elim (fun h => absurd h c2) id⟩
      · have e : j = acc.length := by omega
        subst e
        rw [List.take_length]
        refine gd_not (gd_dec (fun c2 => by rw [if_pos c2]; exact s) (fun c2 => ?_))
        rw [if_neg c2]
        have ha8 := hpo.1
        exact s.allocK fun a42 w16 s => s.app 1 rfl ((s.lit (ty := .int .i64) 0 rfl [pickN pp n] 1 rfl rfl).view 0 rfl) (by simp only [List.length_cons, List.length_nil]; omega) fun s43 w17 s => s.pop
    have ek : k = y.1.length := by omega
    subst ek
    rw [List.take_length] at s
    have hpo := parsOf_ok n y.1
    obtain ⟨kk, e1, hg1, hm1⟩ := rsAt_get (res := res) (by omega) y.2
    subst hLO
    have hacl := (s.view 0 rfl).len
    have hacc := (s.own_ 0 rfl).cap
    have hrsl := (s.view 11 rfl).len
    refine s.ldi (x := c.2) 1 1 rfl rfl ?_
    rw [hy2]
    refine ref12_Pick_eq (many := (rs.len : Int)) (by omega) (by omega) ?_
    rw [show ((rs.len : Nat) : Int) = (res.length : Int) by omega]
    refine (s.view 11 rfl).idx e1 hg1 rfl fun q1 hq1 => ⟨_, hq1, s.drawK fun w14 s => nonNil_some (s.ldp (x := some ⟨g, 0, none⟩) 8 1 rfl rfl (law51_name_spec s (by omega) fun w15 s => ⟨s.still 8 1 rfl rfl, ?_⟩))⟩
    have G : Gh (own (.int .i64) acl (parsOf n y.1) :: cel a24 (cells yevergreenlaw51_Commit c) :: begO p g t r a5 a1 x m T res rs csl parSl texSl (cs.map fun x => x.1) pts cs (CB res ic n) Ω) 3 4 2 g csl cs (CB res ic n) := ⟨rfl, rfl, rfl, hcs⟩
    refine history_Add_spec (psl := acl) (d := cAt res n y) G s (by decide) (by decide) (by decide) (by rw [hCl]; exact hok) (by omega) (fun w' s => s.view 0 rfl) hacc fun csl' cs' cts' w16 s hts' hcs' => ?_
    subst hts'
    have hsucc := CB_succ (res := res) hy
    have s : Sp w0 (ivs (cs'.map fun x => x.1) ((CB res ic n).map (fun x => x.1) ++ [parsOf n y.1]) :: own (.int .i64) acl (parsOf n y.1) :: cel a24 (cells yevergreenlaw51_Commit c) :: ivs (cs.map fun x => x.1) ((CB res ic n).map fun x => x.1) :: cel g [.slice csl'.a csl'.len csl'.cap] :: own yapi_Commit csl' cs' :: ivs pts ((CB res ic n).map fun x => x.1) :: own .slice parSl pts :: own (.int .i64) texSl ((CB res ic n).map fun x => x.2.1) :: cel a5 (wld p g t m parSl texSl ⟨none, 0, 0⟩ ⟨none, 0, 0⟩) :: cel t [.map (some r)] :: ms yrefs_target r [] :: own (.int .i64) rs res :: cel a1 (cells yevergreenlaw51_Input x) :: sto p 1000 T :: rf2 m T :: Ω) w16 := s
    have hpts : pts.length = n := by have := (Sp.ivs_ s 6 rfl).1; rw [List.length_map, hCl] at this; exact this
    refine JoinP.inl (nilIfc_nil (gd_f rfl ?_))
    intro _
    refine gd_f (by rw [hCl]; simp) (nonNil_some (s.lds (x := parSl) 9 5 rfl rfl (s.allocK fun a58 w17 s => s.app (ty := .slice) (xs := pts) (ys := [acl]) 8 rfl ((s.lit (ty := .slice) 0 rfl [acl] 1 rfl rfl).view 0 rfl) (by simp only [List.length_cons, List.length_nil]; omega) fun s59 w18 s => nonNil_some (s.st 10 5 rfl rfl rfl fun w19 s => ?_))))
    have s : Sp w0 (cel a58 (cells .slice acl) :: ivs (cs'.map fun x => x.1) ((CB res ic n).map (fun x => x.1) ++ [parsOf n y.1]) :: own (.int .i64) acl (parsOf n y.1) :: cel a24 (cells yevergreenlaw51_Commit c) :: ivs (cs.map fun x => x.1) ((CB res ic n).map fun x => x.1) :: cel g [.slice csl'.a csl'.len csl'.cap] :: own yapi_Commit csl' cs' :: ivs pts ((CB res ic n).map fun x => x.1) :: own .slice s59 (pts ++ [acl]) :: own (.int .i64) texSl ((CB res ic n).map fun x => x.2.1) :: cel a5 (wld p g t m s59 texSl ⟨none, 0, 0⟩ ⟨none, 0, 0⟩) :: cel t [.map (some r)] :: ms yrefs_target r [] :: own (.int .i64) rs res :: cel a1 (cells yevergreenlaw51_Input x) :: sto p 1000 T :: rf2 m T :: Ω) w19 := s
    refine nonNil_some (s.lds (x := texSl) 10 6 rfl rfl (s.allocK fun a63 w20 s => s.app (ty := .int .i64) (xs := (CB res ic n).map fun x => x.2.1) (ys := [rsAt res y.2]) 10 rfl ((s.lit (ty := .int .i64) 0 rfl [rsAt res y.2] 1 rfl rfl).view 0 rfl) (by simp only [List.length_cons, List.length_nil, List.length_map]; omega) fun s64 w21 s => nonNil_some (s.st 11 6 rfl rfl rfl fun w22 s => arith_i64 (by omega) (by omega) (loop_nx hn' ?_))))
    refine ⟨csl', s59, s64, cs'.map fun x => x.1, pts ++ [acl], cs', rfl, ?_, ?_⟩
    · rw [hcs', hsucc, List.map_append]; rfl
    · have m1 : (CB res ic (n + 1)).map (fun x => x.1) = (CB res ic n).map (fun x => x.1) ++ [parsOf n y.1] := by rw [hsucc, List.map_append]; rfl
      have m2 : (CB res ic (n + 1)).map (fun x => x.2.1) = (CB res ic n).map (fun x => x.2.1) ++ [rsAt res y.2] := by rw [hsucc, List.map_append]; rfl
      unfold begO
      rw [m1, m2]
      have s1 := s.pick [3, 2, 6, 7, 8, 9, 10, 11, 12, 13, 14, 15, 16, 17] 18 rfl (by decide)
      have s2 := Sp.ivs_add s1 3 rfl
      exact s2.pick [1, 2, 3, 0, 5, 6, 7, 8, 9, 10, 11, 12, 13] 14 rfl (by decide)
  · have en : n = ic.length := by have := hcm.len; omega
    subst en
    have hlN := hvN.len
    have hparl := (s.view 4 rfl).len
    have hpts : pts.length = ic.length := by have := (Sp.ivs_ s 3 rfl).1; rw [List.length_map, hCl] at this; exact this
    have s0 : Sp w0 (begE p g t r a5 a1 x m T res rs csl parSl texSl ⟨none, 0, 0⟩ ⟨none, 0, 0⟩ (cs.map fun x => x.1) pts cs (CB res ic ic.length) ns 0 Ω) w10 := by
      have s1 := (s.nil (.int .i64)).nil .str
      exact s1.pick [2, 3, 4, 5, 6, 7, 8, 9, 10, 11, 12, 13, 14, 0, 1] 15 rfl (by decide)
    refine ⟨fun _ w => ∃ (namSl tgtSl : Sl), Sp w0 (begE p g t r a5 a1 x m T res rs csl parSl texSl namSl tgtSl (cs.map fun x => x.1) pts cs (CB res ic ic.length) ns (if ic.length = 0 then 0 else ns.length) Ω) w, ?_, ?_⟩
    · refine s0.lds (x := x.2.2) 10 2 rfl rfl ?_
      refine loop_by (fun x => x.1) ns.length (fun k _ w => (ic.length = 0 → k = 0) ∧ ∃ (namSl tgtSl : Sl), Sp w0 (begE p g t r a5 a1 x m T res rs csl parSl texSl namSl tgtSl (cs.map fun x => x.1) pts cs (CB res ic ic.length) ns k Ω) w) rfl ⟨fun _ => rfl, _, _, s0⟩ ?_
      rintro k ⟨z, _⟩ w11 hk hz ⟨hk0, namSl, tgtSl, s⟩ _
      dsimp only at hz ⊢
      subst hz
      refine gd_dec (fun hlt => ?_) (fun hge => ?_)
      · have hk' : k < ns.length := by omega
        have hget := List.getElem?_eq_getElem hk'
        generalize ns[k] = y at hget
        refine (hvN.ext s.ext).idx rfl hget rfl fun q hq => ⟨y, hq, s.allocK fun a74 w12 s => s.st0 0 rfl rfl rfl fun w13 s => nonNil_some (s.lds (x := parSl) 7 5 rfl rfl (gd_eq (fun c0 => ?_) (fun c0 => ?_)))⟩
        · have c0' : ic.length = 0 := by omega
          refine ⟨namSl, tgtSl, ?_⟩
          rw [if_pos c0']
          rw [hk0 c0'] at s
          exact s.pop
        have hN1 : 1 ≤ ic.length := by omega
        have e2 : ((parSl.len : Nat) : Int) = ((CB res ic ic.length).length : Int) := by omega
        refine s.drawK fun w14 s => s.ldi (x := y.2) 0 1 rfl rfl (nonNil_some (s.lds (x := parSl) 7 5 rfl rfl (ref12_Pick_eq (many := (parSl.len : Int)) (by omega) (by omega) ?_)))
        rw [e2]
        have hto : pickN y.2 ((CB res ic ic.length).length : Int) = toN (CB res ic ic.length).length y := rfl
        rw [hto]
        have hto0 : 0 ≤ toN (CB res ic ic.length).length y := (pickN_bound (by omega)).1
        have hnew := mN_new (CB res ic ic.length).length ns (n := k) (by omega)
        have hms := mN_succ (N := (CB res ic ic.length).length) hget
        have hts := tN_succ (N := (CB res ic ic.length).length) hget
        have hml := mN_len (CB res ic ic.length).length ns k
        have htl := tN_len (CB res ic ic.length).length ns k
        have hwl := wN_len k
        refine s.drawK fun w15 s => nonNil_some (s.ldp (x := some ⟨t, 0, none⟩) 7 2 rfl rfl (law51_name_spec s (by omega) fun w16 s => ⟨s.still 7 2 rfl rfl, ?_⟩))
        have R : Rt (cel a74 (cells yevergreenlaw51_Name y) :: begE p g t r a5 a1 x m T res rs csl parSl texSl namSl tgtSl (cs.map fun x => x.1) pts cs (CB res ic ic.length) ns k Ω) 8 9 t r (mN (CB res ic ic.length).length ns k) := ⟨rfl, rfl⟩
        refine refs_Branch_spec R s (nameB_ok k) hto0 hnew fun w17 s => ?_
        rw [mupdS_new hnew] at s
        generalize toN (CB res ic ic.length).length y = to at *
        let E := fun (mm : List (ByteArray × TG)) => cel a74 (cells yevergreenlaw51_Name y) :: ivs (cs.map fun x => x.1) ((CB res ic ic.length).map fun x => x.1) :: cel g [.slice csl.a csl.len csl.cap] :: own yapi_Commit csl cs :: ivs pts ((CB res ic ic.length).map fun x => x.1) :: own .slice parSl pts :: own (.int .i64) texSl ((CB res ic ic.length).map fun x => x.2.1) :: cel a5 (wld p g t m parSl texSl namSl tgtSl) :: cel t [.map (some r)] :: ms yrefs_target r mm :: own (.int .i64) rs res :: cel a1 (cells yevergreenlaw51_Input x) :: sto p 1000 T :: rf2 m T :: own .str namSl (wN k) :: own (.int .i64) tgtSl (tN (CB res ic ic.length).length ns k) :: Ω
        have s : Sp w0 (E (mN (CB res ic ic.length).length ns k ++ [(nameB k, (to, false))])) w17 := s
        refine ⟨fun z w => z.1 = .nilIface ∧ Sp w0 (E (mN (CB res ic ic.length).length ns k ++ [(nameB k, (to, y.1))])) w, s.ldb (x := y.1) 0 0 rfl rfl ?_, ?_⟩
        · cases hy1 : y.1 with
          | false => exact gd_f rfl ⟨rfl, s⟩
          | true =>
            refine gd_t rfl (s.drawK fun w18 s => nonNil_some (s.ldp (x := some ⟨t, 0, none⟩) 7 2 rfl rfl (law51_name_spec s (by omega) fun w19 s => ⟨s.still 7 2 rfl rfl, ?_⟩)))
            have R1 : Rt (E (mN (CB res ic ic.length).length ns k ++ [(nameB k, (to, false))])) 8 9 t r (mN (CB res ic ic.length).length ns k ++ [(nameB k, (to, false))]) := ⟨rfl, rfl⟩
            refine refs_Drop_spec R1 s (nameB_ok k) (atS_snoc hnew) fun w20 s => ?_
            rw [mdelS_snoc hnew] at s
            have s : Sp w0 (E (mN (CB res ic ic.length).length ns k)) w20 := s
            refine s.drawK fun w21 s => nonNil_some (s.ldp (x := some ⟨t, 0, none⟩) 7 2 rfl rfl (law51_name_spec s (by omega) fun w22 s => ⟨s.still 7 2 rfl rfl, ?_⟩))
            have R2 : Rt (E (mN (CB res ic ic.length).length ns k)) 8 9 t r (mN (CB res ic ic.length).length ns k) := ⟨rfl, rfl⟩
            refine refs_Tag_spec R2 s (nameB_ok k) hto0 hnew fun w23 s => ?_
            rw [mupdS_new hnew] at s
            exact ⟨rfl, s⟩
        rintro ⟨z, _⟩ w24 ⟨hz, s⟩ _
        dsimp only at hz
        subst hz
        refine nilIfc_nil (gd_f rfl (s.drawK fun w25 s => nonNil_some (s.lds (x := namSl) 7 7 rfl rfl (law51_name_spec s (by omega) fun w26 s => ⟨s.still 7 7 rfl rfl, s.allocK fun a100 w27 s => ⟨s.still 8 7 rfl rfl, ?_⟩⟩))))
        refine s.app (ty := .str) (xs := wN k) (ys := [nameB k]) 15 rfl ((s.lit (ty := .str) 0 rfl [nameB k] 1 rfl rfl).view 0 rfl) (by simp only [List.length_cons, List.length_nil]; omega) fun s101 w28 s => nonNil_some (s.st 8 7 rfl rfl rfl fun w29 s => nonNil_some (s.lds (x := tgtSl) 8 8 rfl rfl (s.allocK fun a105 w30 s => s.app (ty := .int .i64) (xs := tN (CB res ic ic.length).length ns k) (ys := [to]) 17 rfl ((s.lit (ty := .int .i64) 0 rfl [to] 1 rfl rfl).view 0 rfl) (by simp only [List.length_cons, List.length_nil]; omega) fun s106 w31 s => nonNil_some (s.st 9 8 rfl rfl rfl fun w32 s => arith_i64 (by omega) (by omega) (loop_nx hk' ⟨fun h => by omega, s101, s106, ?_⟩)))))
        unfold begE
        rw [hms, hts, wN_succ]
        exact s.drop 3
      · have ek : k = ns.length := by omega
        subst ek
        refine ⟨namSl, tgtSl, ?_⟩
        by_cases c0 : ic.length = 0
        · rw [if_pos c0]
          rw [hk0 c0] at s
          exact s
        · rw [if_neg c0]; exact s
    · rintro _ w12 ⟨namSl, tgtSl, s⟩ _
      exact law51_alive_spec s fun w13 s => h p g t r a5 a1 m T res rs csl parSl texSl namSl tgtSl pts cs w13 hb hcs s

end Go.Proofs.YtnmgjpcooncjlaaGreat

/- law51: the walk of CompactKeeps. -/
set_option linter.unusedVariables false
set_option linter.unusedSimpArgs false
namespace Go.Proofs.YtnmgjpcooncjlaaGreat
open Go.Den

variable {w0 w : World} {Ω : List Ob}

def sumI : List IC → Int
  | [] => 0
  | x :: r => (x.1.length : Int) + sumI r
theorem sumI_take {ic : List IC} {n : Nat} {y : IC} (h : ic[n]? = some y) : sumI (ic.take (n + 1)) = sumI (ic.take n) + y.1.length := by
  have key : ∀ (a b : List IC), sumI (a ++ b) = sumI a + sumI b := by
    intro a b
    induction a with
    | nil => simp [sumI]
    | cons x a ih => simp only [List.cons_append, sumI, ih]; omega
  rw [List.take_add_one, h, Option.toList_some, key]
  simp [sumI]
theorem sumI_nn : ∀ (ic : List IC), 0 ≤ sumI ic
  | [] => Int.le_refl _
  | x :: r => by have := sumI_nn r; simp only [sumI]; omega
/-- what a read input is; its bulk is small -/
structure InOK (w : World) (x : yevergreenlaw51_Input.T) (ops : List MakeT) (cms : List yevergreenlaw51_Commit.T) (ic : List IC) (ns : List yevergreenlaw51_Name.T) : Prop where
  vL : View yevergreenref12_Make w x.1 ops
  ok : ∀ o ∈ ops, MakeOK o
  vC : View yevergreenlaw51_Commit w x.2.1 cms
  len : cms.length = ic.length
  at_ : ∀ (k : Nat) (c : yevergreenlaw51_Commit.T), cms[k]? = some c → ∃ y, ic[k]? = some y ∧ View (.int .i64) w c.1 y.1 ∧ c.2 = y.2
  vN : View yevergreenlaw51_Name w x.2.2 ns
  small : ops.length ≤ 1048576 ∧ ns.length ≤ 1048576 ∧ ic.length ≤ 1048576 ∧ sumI ic ≤ 1048576
theorem law51_good_spec {x : yevergreenlaw51_Input.T} {ops : List MakeT} {cms : List yevergreenlaw51_Commit.T} {ic : List IC} {ns : List yevergreenlaw51_Name.T} (i : InOK w0 x ops cms ic ns) (s : Sp w0 Ω w) {K : Bool → World → Prop} (h : ∀ w', Sp w0 Ω w' → K (decide ((ops.length : Int) + ic.length + ns.length + sumI ic ≤ 90)) w') : C_law51_good x K w := by
  apply S_law51_good
  unfold F_law51_good
  obtain ⟨h1, h2, h3, h4⟩ := i.small
  have l1 := i.vL.len
  have l2 := i.vC.len
  have l3 := i.vN.len
  have l4 := i.len
  refine s.allocK fun a1 w1 s => s.lds (x := x.1) 0 0 rfl rfl (s.lds (x := x.2.1) 0 1 rfl rfl (arith_i64 (by omega) (by omega) (s.lds (x := x.2.2) 0 2 rfl rfl (arith_i64 (by omega) (by omega) (s.lds (x := x.2.1) 0 1 rfl rfl ?_)))))
  refine loop_by (fun x => x.2.1) ic.length (fun n z w => z.1 = (ops.length : Int) + ic.length + ns.length + sumI (ic.take n) ∧ sumI (ic.take n) + sumI (ic.drop n) = sumI ic ∧ Sp w0 (cel a1 (cells yevergreenlaw51_Input x) :: Ω) w) rfl ⟨by dsimp only; simp [sumI]; omega, by simp [sumI], s⟩ ?_
  clear s
  rintro n ⟨a, z, _⟩ w2 hn hz ⟨ha, hs, s⟩ _
  dsimp only at hz ha ⊢
  subst hz ha
  have nn := sumI_nn (ic.drop n)
  have nn2 := sumI_nn (ic.take n)
  refine gd_dec (fun hlt => ?_) (fun hge => ?_)
  · have hn' : n < ic.length := by omega
    obtain ⟨c, hget⟩ : ∃ c, cms[n]? = some c := ⟨_, List.getElem?_eq_getElem (by omega)⟩
    obtain ⟨y, hy, hvy, _⟩ := i.at_ n c hget
    have hyl := hvy.len
    have ht := sumI_take hy
    have hd : ic.drop n = y :: ic.drop (n + 1) := by
      rw [List.drop_eq_getElem_cons hn']
      congr 1
      have := List.getElem?_eq_getElem hn'
      rw [hy] at this
      exact (Option.some.inj this).symm
    rw [hd, sumI] at hs nn
    have nn3 := sumI_nn (ic.drop (n + 1))
    refine (i.vC.ext s.ext).idx rfl hget rfl fun q hq => ⟨c, hq, s.allocK fun a12 w3 s => s.st0 0 rfl rfl rfl fun w4 s => s.lds (x := c.1) 0 0 rfl rfl (arith_i64 (by omega) (by omega) (arith_i64 (by omega) (by omega) (loop_nx hn' ⟨by omega, by omega, s.pop⟩)))⟩
  · have e : n = ic.length := by omega
    subst e
    rw [List.take_length]
    exact h _ s.pop

end Go.Proofs.YtnmgjpcooncjlaaGreat

/- law51: the walk of CompactKeeps, joined. -/
set_option linter.unusedVariables false
set_option linter.unusedSimpArgs false
namespace Go.Proofs.YtnmgjpcooncjlaaGreat
open Go.Den

variable {w0 w : World} {Ω : List Ob}

theorem sumI_le : ∀ {ic : List IC} {k : Nat} {y : IC}, ic[k]? = some y → (y.1.length : Int) ≤ sumI ic
  | [], _, _, h => by simp at h
  | x :: r, 0, y, h => by simp at h; subst h; have := sumI_nn r; simp only [sumI]; omega
  | x :: r, k + 1, y, h => by
    have := sumI_le (ic := r) (k := k) (y := y) (by simpa using h)
    simp only [sumI]; omega
end Go.Proofs.YtnmgjpcooncjlaaGreat

/- law51: the world that the statements begin with; the walks of CompactNone and CompactFull. -/
set_option linter.unusedVariables false
set_option linter.unusedSimpArgs false
namespace Go.Proofs.YtnmgjpcooncjlaaGreat
open Go.Den

variable {w0 w : World} {Ω : List Ob}

theorem CB_cok {T : List ET} {res : List Int} (h1 : 1 ≤ res.length) (hk : KnownAll T res) (ic : List IC) (n : Nat) : COK (CB res ic n) ∧ ∀ d ∈ CB res ic n, d.2.1 ≤ (T.length : Int) := by
  constructor
  · intro k d hd
    have hl := (List.getElem?_eq_some_iff.1 hd).1
    rw [CB_len] at hl
    rw [CB_get hl] at hd
    cases hd
    exact cAt_ok h1 hk k _
  · intro d hd
    obtain ⟨k, hk2⟩ := List.getElem?_of_mem hd
    have hl := (List.getElem?_eq_some_iff.1 hk2).1
    rw [CB_len] at hl
    rw [CB_get hl] at hk2
    cases hk2
    obtain ⟨_, _, _, hm⟩ := rsAt_get h1 (ic.getD k ([], 0)).2
    exact (hk _ hm).2
theorem beg_CW {p : Addr} {g t r a5 a1 : Nat} {x : yevergreenlaw51_Input.T} {m : yevergreenref12_Store.T} {T : List ET} {res : List (Ty.int .i64).T} {rs csl parSl texSl namSl tgtSl : Sl} {pts : List Sl} {cs : List CM} {ic : List IC} {ns : List IN} {n : Nat} (hb : BldOK 1000 T res n) (hcs : cs.map (fun x => x.2) = (CB res ic ic.length).map (fun x => x.2)) (hcl : ic.length ≤ 90) (hnl : ns.length ≤ 90) :
    CW (begE p g t r a5 a1 x m T res rs csl parSl texSl namSl tgtSl (cs.map fun x => x.1) pts cs (CB res ic ic.length) ns (if ic.length = 0 then 0 else ns.length) Ω) 11 1 2 0 7 8 p 1000 T g csl cs (CB res ic ic.length) t r (mN (CB res ic ic.length).length ns (if ic.length = 0 then 0 else ns.length)) (tN (CB res ic ic.length).length ns (if ic.length = 0 then 0 else ns.length)) ∧
    Fine T (CB res ic ic.length) (tN (CB res ic ic.length).length ns (if ic.length = 0 then 0 else ns.length)) ∧ (CB res ic ic.length).length ≤ 90 ∧ (if ic.length = 0 then 0 else ns.length) ≤ 90 := by
  have hCl := CB_len res ic ic.length
  have hok := CB_cok (res := res) (by have := hb.cnt; omega) hb.known ic ic.length
  have hk : (if ic.length = 0 then 0 else ns.length) ≤ 90 := by split <;> omega
  have hk0 : (CB res ic ic.length).length = 0 → (if ic.length = 0 then 0 else ns.length) = 0 := fun h0 => by rw [hCl] at h0; rw [if_pos h0]
  have hS1 : ∀ z : Int, z ∈ tN (CB res ic ic.length).length ns (if ic.length = 0 then 0 else ns.length) → 0 ≤ z ∧ z < ((CB res ic ic.length).length : Int) := by
    by_cases c0 : (CB res ic ic.length).length = 0
    · rw [hk0 c0]
      intro z hz
      simp [tN] at hz
    · exact tN_bound (by omega) ns _
  have hml := mN_len (CB res ic ic.length).length ns (if ic.length = 0 then 0 else ns.length)
  refine ⟨⟨rfl, ⟨rfl, rfl, rfl, hcs⟩, ⟨rfl, rfl⟩, hok.1, by omega, by omega, tN_mem _ ns _, fun z hz => (hS1 z hz).1⟩, ⟨fun z hz => (hS1 z hz).2, fun n d _ hd => hok.2 d (List.mem_of_getElem? hd)⟩, by omega, hk⟩

/-! ### Nothing -/
def TE (v0 v1 v2 : Option Addr) : Prop := ∀ (w : World) (K : Sl × Sl × Value → World → Prop), K (⟨none, 0, 0⟩, ⟨none, 0, 0⟩, errV 5) w → C_compact_texts v0 v1 v2 K w
theorem compact_Keep_nilA {v : Option Addr} {K : Sl × Value → World → Prop} (h : K (⟨none, 0, 0⟩, errV 5) w) : C_compact_Keep none v K w := by
  apply S_compact_Keep
  unfold F_compact_Keep
  refine JoinP.inl (gd_t rfl ?_)
  intro _
  exact gd_t rfl h
theorem compact_Keep_nilB {a : Addr} {K : Sl × Value → World → Prop} (h : K (⟨none, 0, 0⟩, errV 5) w) : C_compact_Keep (some a) none K w := by
  apply S_compact_Keep
  unfold F_compact_Keep
  refine JoinP.inl (gd_f rfl ?_)
  intro _
  exact gd_t rfl h
theorem TE.a {v1 v2 : Option Addr} : TE none v1 v2 := fun w K h => by
  apply S_compact_texts
  unfold F_compact_texts
  exact gd_t rfl h
theorem TE.b {a : Addr} {v2 : Option Addr} : TE (some a) none v2 := fun w K h => by
  apply S_compact_texts
  unfold F_compact_texts
  exact gd_f rfl (compact_Keep_nilA (nilIfc_err (gd_t rfl h)))
theorem TE.c {a b : Addr} : TE (some a) (some b) none := fun w K h => by
  apply S_compact_texts
  unfold F_compact_texts
  exact gd_f rfl (compact_Keep_nilB (nilIfc_err (gd_t rfl h)))
theorem TE.saved {v0 v1 v2 : Option Addr} (te : TE v0 v1 v2) (s : Sp w0 Ω w) {K : ycompact_Report.T × Value → World → Prop} (h : ∀ w', Sp w0 Ω w' → K (((0 : Int), (0 : Int), (0 : Int), (0 : Int)), errV 5) w') : C_compact_Saved v0 v1 v2 K w := by
  apply S_compact_Saved
  unfold F_compact_Saved
  exact s.allocK fun a1 w1 s => te _ _ (nilIfc_err (gd_t rfl (s.st0 0 rfl rfl rfl fun w3 s => s.ld0 (ty := ycompact_Report) (x := ((0 : Int), (0 : Int), (0 : Int), (0 : Int))) 0 rfl rfl (h _ s.pop))))
theorem TE.of_ {v0 v1 v2 : Option Addr} {top : Int} (te : TE v0 v1 v2) {K : Option Addr × Option Addr × Option Addr × Value → World → Prop} (h : K (none, none, none, errV 5) w) : C_compact_Of v0 v1 v2 top K w := by
  apply S_compact_Of
  unfold F_compact_Of
  exact te _ _ (nilIfc_err (gd_t rfl h))
set_option maxHeartbeats 2000000 in
theorem law51_CompactNone_spec {most : Int} {K : Bool → World → Prop} (h : ∀ w', Ext w0 w' → K true w') : C_law51_CompactNone most K w0 := by
  apply S_law51_CompactNone
  unfold F_law51_CompactNone
  refine law51_begun_spec (x := (⟨none, 0, 0⟩, ⟨none, 0, 0⟩, ⟨none, 0, 0⟩)) (ops := []) (cms := []) (ic := []) (ns := []) (Sp.init w0) .nil (by simp) (by simp) .nil ⟨rfl, fun k c h => by simp at h⟩ (by simp) .nil (by simp) fun p g t r a5 a1 m T res rs csl parSl texSl namSl tgtSl pts cs w1 hb hcs s => ?_
  generalize hBE : begE p g t r a5 a1 (⟨none, 0, 0⟩, ⟨none, 0, 0⟩, ⟨none, 0, 0⟩) m T res rs csl parSl texSl namSl tgtSl (cs.map fun x => x.1) pts cs (CB res [] ([] : List IC).length) [] (if ([] : List IC).length = 0 then 0 else ([] : List IN).length) [] = BE at s
  have c6 : BE[6]? = some (cel a5 (wld p g t m parSl texSl namSl tgtSl)) := by rw [← hBE]; rfl
  refine gd_f rfl (nonNil_some (s.ldp (x := some ⟨t, 0, none⟩) 6 2 c6 rfl (compact_Keep_nilA (nonNil_some (s.ldp (x := some ⟨g, 0, none⟩) 6 1 c6 rfl (compact_Keep_nilB ?_))))))
  refine ⟨fun z w => z.1 = errV 5 ∧ Sp w0 BE w, s.drawK fun w5 s => nonNil_some (s.ldp (x := some ⟨g, 0, none⟩) 6 1 c6 rfl (nonNil_some (s.ldp (x := some ⟨t, 0, none⟩) 6 2 c6 rfl ⟨?_, ?_⟩))), ?_⟩
  · exact TE.a.saved s fun w6 s => s.allocK fun a15 w7 s => s.st0 0 rfl rfl rfl fun w8 s => ⟨rfl, s.pop⟩
  · exact s.allocK fun a16 w9 s => ⟨s.still 7 2 c6 rfl, s.still 7 1 c6 rfl, TE.a.saved s fun w10 s => s.st0 0 rfl rfl rfl fun w11 s => ⟨rfl, s.pop⟩⟩
  clear s
  rintro ⟨z1, _⟩ w12 ⟨e1, s⟩ _
  dsimp only at e1
  subst e1
  refine ⟨fun z w => z.1 = errV 5 ∧ Sp w0 BE w, s.drawK fun w5 s => nonNil_some (s.ldp (x := some p) 6 0 c6 rfl (nonNil_some (s.ldp (x := some ⟨t, 0, none⟩) 6 2 c6 rfl ⟨?_, ?_⟩))), ?_⟩
  · exact TE.b.saved s fun w6 s => s.allocK fun a15 w7 s => s.st0 0 rfl rfl rfl fun w8 s => ⟨rfl, s.pop⟩
  · exact s.allocK fun a16 w9 s => ⟨s.still 7 2 c6 rfl, s.still 7 0 c6 rfl, TE.b.saved s fun w10 s => s.st0 0 rfl rfl rfl fun w11 s => ⟨rfl, s.pop⟩⟩
  clear s
  rintro ⟨z2, _⟩ w13 ⟨e2, s⟩ _
  dsimp only at e2
  subst e2
  refine ⟨fun z w => z.1 = errV 5 ∧ Sp w0 BE w, s.drawK fun w5 s => nonNil_some (s.ldp (x := some p) 6 0 c6 rfl (nonNil_some (s.ldp (x := some ⟨g, 0, none⟩) 6 1 c6 rfl ⟨?_, ?_⟩))), ?_⟩
  · exact TE.c.saved s fun w6 s => s.allocK fun a15 w7 s => s.st0 0 rfl rfl rfl fun w8 s => ⟨rfl, s.pop⟩
  · exact s.allocK fun a16 w9 s => ⟨s.still 7 1 c6 rfl, s.still 7 0 c6 rfl, TE.c.saved s fun w10 s => s.st0 0 rfl rfl rfl fun w11 s => ⟨rfl, s.pop⟩⟩
  clear s
  rintro ⟨z3, _⟩ w14 ⟨e3, s⟩ _
  dsimp only at e3
  subst e3
  refine s.drawK fun w15 s => nonNil_some (s.ldp (x := some ⟨g, 0, none⟩) 6 1 c6 rfl (nonNil_some (s.ldp (x := some ⟨t, 0, none⟩) 6 2 c6 rfl (TE.a.of_ (s.drawK fun w16 s => nonNil_some (s.ldp (x := some p) 6 0 c6 rfl (nonNil_some (s.ldp (x := some ⟨t, 0, none⟩) 6 2 c6 rfl (TE.b.of_ (s.drawK fun w17 s => nonNil_some (s.ldp (x := some p) 6 0 c6 rfl (nonNil_some (s.ldp (x := some ⟨g, 0, none⟩) 6 1 c6 rfl (TE.c.of_ ?_))))))))))))))
  refine ⟨(List.replicate 8 (errV 5)).toArray, rfl, s.allocK fun a53 w18 s => ?_⟩
  have s := s.lit (ty := .iface) 0 rfl (List.replicate 8 (errV 5)) 8 rfl rfl
  refine loop_by (fun x => x.1) 8 (fun n _ w => Sp w0 (own .iface ⟨some ⟨a53, 0, none⟩, 8, 8⟩ (List.replicate 8 (errV 5)) :: BE) w) rfl s ?_
  clear s
  rintro n ⟨x, _⟩ w19 hn hx s _
  dsimp only at hx ⊢
  subst hx
  refine gd_dec (fun hlt => ?_) (fun hge => h _ s.ext)
  have hn' : n < 8 := by omega
  have hget : (List.replicate 8 (errV 5))[n]? = some (errV 5) := by rw [List.getElem?_replicate, if_pos hn']
  exact (s.view 0 rfl).idx rfl hget rfl fun q hq => ⟨_, hq, is_err (by decide) (gd_f rfl (arith_i64 (by omega) (by omega) (loop_nx hn' s)))⟩

/-! ### Too small -/
theorem clampM_le (top : Int) : clampM top ≤ (if top < 0 then 0 else top) := by
  unfold clampM
  (repeat' split) <;> omega
theorem law51_CompactFull_spec {x : yevergreenlaw51_Input.T} {top : Int} {ops : List MakeT} {cms : List yevergreenlaw51_Commit.T} {ic : List IC} {ns : List yevergreenlaw51_Name.T} (i : InOK w0 x ops cms ic ns) {K : Bool → World → Prop} (h : ∀ w', Ext w0 w' → K true w') : C_law51_CompactFull x top K w0 := by
  apply S_law51_CompactFull
  unfold F_law51_CompactFull
  refine (Sp.init w0).allocK fun a1 w1 s => s.ld0 (ty := yevergreenlaw51_Input) (x := x) 0 rfl rfl (law51_good_spec i s fun w2 s => gd_not (gd_dec (fun hsm => ?_) (fun _ => h _ s.ext)))
  have nn := sumI_nn ic
  refine s.ld0 (ty := yevergreenlaw51_Input) (x := x) 0 rfl rfl ?_
  refine law51_begun_spec (ic := ic) s i.vL i.ok (by omega) i.vC ⟨i.len, fun k c hc => ?_⟩ (by omega) i.vN (by omega) fun p g t r a5 b1 m T res rs csl parSl texSl namSl tgtSl pts cs w3 hb hcs s => ?_
  · obtain ⟨y, h1, h2, h3⟩ := i.at_ k c hc
    exact ⟨y, h1, h2, h3, by have := sumI_le h1; omega⟩
  obtain ⟨W, hF, hC, hk⟩ := beg_CW (p := p) (g := g) (t := t) (r := r) (a5 := a5) (a1 := b1) (x := x) (m := m) (rs := rs) (csl := csl) (parSl := parSl) (texSl := texSl) (namSl := namSl) (tgtSl := tgtSl) (pts := pts) (ns := ns) (Ω := [cel a1 (cells yevergreenlaw51_Input x)]) hb hcs (by omega) (by omega)
  have hTl := hb.len
  have c6 : (begE p g t r a5 b1 x m T res rs csl parSl texSl namSl tgtSl (cs.map fun x => x.1) pts cs (CB res ic ic.length) ns (if ic.length = 0 then 0 else ns.length) [cel a1 (cells yevergreenlaw51_Input x)])[6]? = some (cel a5 (wld p g t m parSl texSl namSl tgtSl)) := rfl
  generalize begE p g t r a5 b1 x m T res rs csl parSl texSl namSl tgtSl (cs.map fun x => x.1) pts cs (CB res ic ic.length) ns (if ic.length = 0 then 0 else ns.length) [cel a1 (cells yevergreenlaw51_Input x)] = BE at *
  generalize mN (CB res ic ic.length).length ns (if ic.length = 0 then 0 else ns.length) = mm at *
  generalize tN (CB res ic ic.length).length ns (if ic.length = 0 then 0 else ns.length) = S at *
  generalize CB res ic ic.length = C at *
  refine gd_f rfl ⟨fun z w => ∃ b, z.1 = ⟨b, 0, none⟩ ∧ z.2.1 = .nilIface ∧ Sp w0 (cel b (cells ycompact_Report ((C.length : Int), (T.length : Int), ((kl C S 0 C.length).length : Int), ((rlist T (hL C S C.length)).length : Int))) :: BE) w, s.drawK fun w5 s => nonNil_some (s.ldp (x := some p) 6 0 c6 rfl (nonNil_some (s.ldp (x := some ⟨g, 0, none⟩) 6 1 c6 rfl (nonNil_some (s.ldp (x := some ⟨t, 0, none⟩) 6 2 c6 rfl ⟨?_, ?_⟩))))), ?_⟩
  · exact compact_Saved_sp W s (fun _ w6 s => s.allocK fun a15 w7 s => s.st0 0 rfl rfl rfl fun w8 s => ⟨a15, rfl, rfl, s⟩) (fun hn => absurd hF hn)
  · exact s.allocK fun a16 w9 s => ⟨s.still 7 2 c6 rfl, s.still 7 1 c6 rfl, s.still 7 0 c6 rfl, compact_Saved_sp W.cons s (fun _ w10 s => s.st0 0 rfl rfl rfl fun w11 s => ⟨a16, rfl, rfl, s⟩) (fun hn => absurd hF hn)⟩
  clear s
  rintro ⟨z1, z2, _⟩ w12 ⟨b, e1, e2, s⟩ _
  dsimp only at e1 e2 ⊢
  subst e1 e2
  have hrl := rlist_len T (hL C S C.length)
  refine s.drawK fun w13 s => nonNil_some (s.ldp (x := some p) 7 0 c6 rfl (nonNil_some (s.ldp (x := some ⟨g, 0, none⟩) 7 1 c6 rfl (nonNil_some (s.ldp (x := some ⟨t, 0, none⟩) 7 2 c6 rfl (compact_Of_sp W.cons s (fun _ hle p2 g3 csl3 cs3 t2 r2 m2 w14 hcs3 hp2 s => ?_) (fun _ hgt w14 s => ?_) (fun hn => absurd hF hn)))))))
  · have hcl := copy_len (T := T) (ids := rlist T (hL C S C.length))
    have hcm := clampM_le top
    refine nilIfc_nil (gd_f rfl (s.ldi (x := ((rlist T (hL C S C.length)).length : Int)) 6 3 rfl rfl (gd_f (decide_eq_false ?_) (s.drawK fun w15 s => nilIfc_nil (gd_t rfl (gd_t rfl (s.ldi (x := ((rlist T (hL C S C.length)).length : Int)) 6 3 rfl rfl (arith_i64 ?_ ?_ (intern_Room_sp s 0 rfl fun w16 s => ⟨s.still 6 3 rfl rfl, ?_⟩)))))))))
    · split at hcm <;> omega
    · (repeat' split) <;> omega
    · (repeat' split) <;> omega
    · have : (clampM top - ((YtnmgjpcooncjlaaGreat.copy T (rlist T (hL C S C.length))).length : Int) == (if (if (1048576 : Int) < top then (1048576 : Int) else top) < (0 : Int) then (0 : Int) else (if (1048576 : Int) < top then (1048576 : Int) else top)) - ((rlist T (hL C S C.length)).length : Int)) = true := by
        rw [hcl, beq_iff_eq]
        unfold clampM
        (repeat' split) <;> omega
      rw [this]
      exact h _ s.ext
  · refine nilIfc_nil (gd_f rfl (s.ldi (x := ((rlist T (hL C S C.length)).length : Int)) 0 3 rfl rfl (gd_t (decide_eq_true ?_) (gd_t rfl (gd_t rfl (gd_t rfl (is_err (by decide) (h _ s.ext))))))))
    unfold clampM at hgt
    (repeat' split at hgt) <;> (try split) <;> omega

end Go.Proofs.YtnmgjpcooncjlaaGreat

/- The reading of law51's argument: a struct of three slices, of which one holds slices. -/
set_option linter.unusedVariables false
set_option linter.unusedSimpArgs false
namespace Go.Proofs.YtnmgjpcooncjlaaGreat
open Go.Den
open Go.ChangeShapes Go.WideShapes Go.ChangeAt Go.RowKit Go.Deep

theorem bulk_one {H : Type} (d : DataW H) : 1 ≤ Rows.uptoBulk d := by
  cases d with
  | lit l => cases l <;> simp [Rows.uptoBulk]
  | nil => simp [Rows.uptoBulk]
  | ptr d => simp [Rows.uptoBulk]
  | slice a b => simp [Rows.uptoBulk]
  | agg a => simp [Rows.uptoBulk]
  | iface a b => simp [Rows.uptoBulk]
  | map a => simp [Rows.uptoBulk]
  | held a => simp [Rows.uptoBulk]
theorem bulk_all {H : Type} : ∀ l : List (DataW H), l.length ≤ Rows.uptoBulkAll l
  | [] => Nat.zero_le _
  | d :: r => by
    have h1 := bulk_one d
    have h2 := bulk_all r
    rw [Rows.uptoBulkAll]
    simp only [List.length_cons]; omega

section
variable {H : Type} {enc : TypeId × Value → H} {P : Program} {w : World} {base : Nat} {held : Bool}

theorem slice_readQ {t e : TypeId} {ty : Ty} {Q : ty.T → DataW H → Prop} (ht : P.underlying t = some (.slice e)) (hc : P.cellsOf e = ty.size)
    (hq : ∀ (n : Nat) (cs : List Value) (x : DataW H × List MemPlace), DataW.trod enc P w base (fun _ => true) held n e cs = some x → ∃ y : ty.T, cs = cells ty y ∧ Q y x.1)
    {n : Nat} {cs : List Value} {x : DataW H × List MemPlace} (h : DataW.trod enc P w base (fun _ => true) held n t cs = some x) :
    ∃ (s : Sl) (xs : List ty.T) (ds : List (DataW H)), cs = [.slice s.a s.len s.cap] ∧ View ty w s xs ∧ ds.length = xs.length ∧ (∀ (i : Nat) (y : ty.T), xs[i]? = some y → ∃ d, ds[i]? = some d ∧ Q y d) ∧ Rows.uptoBulkAll ds + 1 ≤ Rows.uptoBulk x.1 := by
  rcases open_slice ht h with ⟨hcs, hx0⟩ | ⟨a, len, cap, m, n', D, Pl, hcs, _, hl, hm, hmm, hxx, hi⟩
  · refine ⟨⟨none, 0, 0⟩, [], [], hcs, .nil, rfl, fun i y h => by simp at h, ?_⟩
    have := bulk_one x.1
    rw [Rows.uptoBulkAll]; omega
  · have hle : len ≤ m := by
      rw [hmm]; split <;> omega
    obtain ⟨xs, hxl, hxs⟩ := range_list (p := fun i (x : ty.T) => At w (a.add (i * ty.size)) (cells ty x) ∧ Q x (D i)) len fun i hil => by
      obtain ⟨cs', h1, h2⟩ := hi i (by omega)
      obtain ⟨y, rfl, hy⟩ := hq _ _ _ h2
      rw [hc] at h1
      exact ⟨y, at_of_cells h1, hy⟩
    refine ⟨⟨some a, len, cap⟩, xs, (List.range len).map D, hcs, ⟨hxl.symm, fun q hq => ?_, fun _ => ⟨a, rfl⟩⟩, by simp [hxl], fun i y hy => ?_, ?_⟩
    · cases hq
      exact at_flat xs _ fun i x hx => (hxs i x hx).1
    · have hil := (List.getElem?_eq_some_iff.1 hy).1
      refine ⟨D i, ?_, (hxs i y hy).2⟩
      rw [List.getElem?_map, List.getElem?_range (by omega)]; rfl
    · rw [hxx, Rows.uptoBulk]
      omega
theorem slice_readO {d : Nat} {t e : TypeId} {ty : Ty} (ht : P.underlying t = some (.slice e)) (hr : rdOK P d e ty = true) (hc : P.cellsOf e = ty.size)
    {n : Nat} {cs : List Value} {x : DataW H × List MemPlace} (h : DataW.trod enc P w base (fun _ => true) held n t cs = some x) :
    ∃ (s : Sl) (xs : List ty.T), cs = [.slice s.a s.len s.cap] ∧ View ty w s xs ∧ (∀ x ∈ xs, wfT ty x) ∧ xs.length + 1 ≤ Rows.uptoBulk x.1 := by
  obtain ⟨s, xs, ds, h1, h2, h3, h4, h5⟩ := slice_readQ (Q := fun y _ => wfT ty y) ht hc (fun n cs x hx => rd_read d e ty hr n cs x hx) h
  refine ⟨s, xs, h1, h2, fun y hy => ?_, ?_⟩
  · obtain ⟨i, hi⟩ := List.getElem?_of_mem hy
    obtain ⟨_, _, h⟩ := h4 i y hi
    exact h
  · have := bulk_all ds
    omega

/-- what a program must say of its types for the reading -/
def inB (P : Program) (t : TypeId) : Bool := match P.underlying t with
  | some (.struct ⟨[f0, f1, f2]⟩) => Nat.beq f0.offset 0 && Nat.beq f1.offset 1 && Nat.beq f2.offset 2 && Nat.beq (P.cellsOf t) 3 && Nat.beq (P.cellsOf f0.type) 1 && Nat.beq (P.cellsOf f1.type) 1 && Nat.beq (P.cellsOf f2.type) 1 && sliceOK P 3 f0.type yevergreenref12_Make && sliceOK P 3 f2.type yevergreenlaw51_Name &&
    (match P.underlying f1.type with
      | some (.slice e) => Nat.beq (P.cellsOf e) 2 && (match P.underlying e with
        | some (.struct ⟨[g0, g1]⟩) => Nat.beq g0.offset 0 && Nat.beq g1.offset 1 && Nat.beq (P.cellsOf g0.type) 1 && Nat.beq (P.cellsOf g1.type) 1 && sliceOK P 1 g0.type (.int .i64) && rdOK P 1 g1.type (.int .i64)
        | _ => false)
      | _ => false)
  | _ => false

theorem ic_of : ∀ (xs : List yevergreenlaw51_Commit.T) (ds : List (DataW H)), ds.length = xs.length → (∀ (i : Nat) (y : yevergreenlaw51_Commit.T), xs[i]? = some y → ∃ d, ds[i]? = some d ∧ ∃ ps : List (Ty.int .i64).T, View (.int .i64) w y.1 ps ∧ ps.length + 1 ≤ Rows.uptoBulk d) →
    ∃ ic : List IC, xs.length = ic.length ∧ (∀ (k : Nat) (c : yevergreenlaw51_Commit.T), xs[k]? = some c → ∃ y, ic[k]? = some y ∧ View (.int .i64) w c.1 y.1 ∧ c.2 = y.2) ∧ sumI ic + ic.length ≤ (Rows.uptoBulkAll ds : Int)
  | [], ds, _, _ => ⟨[], rfl, fun k c h => by simp at h, by simp [sumI]⟩
  | x :: xs, [], h, _ => by simp at h
  | x :: xs, d :: ds, h, hx => by
    obtain ⟨d', e, ps, h1, h2⟩ := hx 0 x rfl
    simp at e
    subst e
    obtain ⟨ic, h3, h4, h5⟩ := ic_of xs ds (by simpa using h) fun i y hy => by
      have := hx (i + 1) y (by simpa using hy)
      simpa using this
    refine ⟨(ps, x.2) :: ic, by simp [h3], fun k c hk => ?_, ?_⟩
    · cases k with
      | zero => simp at hk; subst hk; exact ⟨_, rfl, h1, rfl⟩
      | succ k => exact h4 k c (by simpa using hk)
    · rw [Rows.uptoBulkAll]
      simp only [sumI, List.length_cons]
      omega
theorem input_read {t : TypeId} {v : Value} {dd : DataW H} {p : List MemPlace} {r : Reach} {b0 : Nat} (hs : inB P t = true) (hw : Value.okWide P w r b0 t v)
    (h : DataW.Trod enc P w base (fun _ => true) held t v dd p) : ∃ (x : yevergreenlaw51_Input.T) (ops : List MakeT) (cms : List yevergreenlaw51_Commit.T) (ic : List IC) (ns : List yevergreenlaw51_Name.T), v = val yevergreenlaw51_Input x ∧ (Rows.uptoBulk dd ≤ 1048576 → InOK w x ops cms ic ns) := by
  unfold inB at hs
  split at hs
  rotate_left
  · cases hs
  rename_i f0 f1 f2 hu
  simp only [Bool.and_eq_true] at hs
  obtain ⟨⟨⟨⟨⟨⟨⟨⟨⟨o0, o1⟩, o2⟩, hct⟩, c0⟩, c1⟩, c2⟩, s0⟩, s2⟩, hs⟩ := hs
  have o0 := Nat.eq_of_beq_eq_true o0
  have o1 := Nat.eq_of_beq_eq_true o1
  have o2 := Nat.eq_of_beq_eq_true o2
  have hct := Nat.eq_of_beq_eq_true hct
  have c0 := Nat.eq_of_beq_eq_true c0
  have c1 := Nat.eq_of_beq_eq_true c1
  have c2 := Nat.eq_of_beq_eq_true c2
  split at hs
  rotate_left
  · cases hs
  rename_i e1 hu1
  simp only [Bool.and_eq_true] at hs
  obtain ⟨ce, hs⟩ := hs
  have ce := Nat.eq_of_beq_eq_true ce
  split at hs
  rotate_left
  · cases hs
  rename_i g0 g1 hue
  simp only [Bool.and_eq_true] at hs
  obtain ⟨⟨⟨⟨⟨p0, p1⟩, d0⟩, d1⟩, sg0⟩, sg1⟩ := hs
  have p0 := Nat.eq_of_beq_eq_true p0
  have p1 := Nat.eq_of_beq_eq_true p1
  have d0 := Nat.eq_of_beq_eq_true d0
  have d1 := Nat.eq_of_beq_eq_true d1
  obtain ⟨vs, rfl, _⟩ := okWide_struct hu hw
  obtain ⟨n, hx⟩ := h
  obtain ⟨y0, y1, y2, m, hxx, hlen, h0, h1, h2⟩ := trod_struct3 hu hx
  rw [o0, c0] at h0
  rw [o1, c1] at h1
  rw [o2, c2] at h2
  rw [hct] at hlen
  unfold sliceOK at s0 s2 sg0
  split at s0
  rotate_left
  · cases s0
  rename_i ee0 hu0
  simp only [Bool.and_eq_true] at s0
  split at s2
  rotate_left
  · cases s2
  rename_i ee2 hu2
  simp only [Bool.and_eq_true] at s2
  split at sg0
  rotate_left
  · cases sg0
  rename_i eg0 hug0
  simp only [Bool.and_eq_true] at sg0
  obtain ⟨q0, ops, hc0, hv0, hw0, hb0⟩ := slice_readO hu0 s0.1 (Nat.eq_of_beq_eq_true s0.2) h0
  obtain ⟨q2, ns, hc2, hv2, hw2, hb2⟩ := slice_readO hu2 s2.1 (Nat.eq_of_beq_eq_true s2.2) h2
  obtain ⟨q1, cms, ds, hc1, hv1, hdl, hds, hb1⟩ := slice_readQ (ty := yevergreenlaw51_Commit) (Q := fun y d => ∃ ps : List (Ty.int .i64).T, View (.int .i64) w y.1 ps ∧ ps.length + 1 ≤ Rows.uptoBulk d) hu1 ce (fun n cs x hx => by
    obtain ⟨z0, z1, m, hxx, hlen, h0, h1⟩ := trod_struct2 hue hx
    rw [p0, d0] at h0
    rw [p1, d1] at h1
    rw [ce] at hlen
    obtain ⟨u0, ps, hk0, hk1, _, hk3⟩ := slice_readO hug0 sg0.1 (Nat.eq_of_beq_eq_true sg0.2) h0
    obtain ⟨u1, hk4, _⟩ := rd_read 1 g1.type (.int .i64) sg1 _ _ _ h1
    refine ⟨(u0, u1), ?_, ps, hk1, ?_⟩
    · match cs, hlen with
      | [a, b], _ =>
        simp at hk0 hk4
        subst hk0 
        simp only [cells, List.cons.injEq] at hk4 ⊢
        simp [hk4, cells]
    · rw [hxx]
      simp only [Rows.uptoBulk, Rows.uptoBulkAll]
      omega) h1
  obtain ⟨ic, i1, i2, i3⟩ := ic_of cms ds hdl hds
  refine ⟨(q0, q1, q2), ops, cms, ic, ns, ?_, fun hb => ?_⟩
  · have : vs.toList = cells (.pair .slice (.pair .slice .slice)) (q0, q1, q2) := by
      have hlen' : vs.toList.length = 3 := by simpa [Value.cells] using hlen
      have hv : (Value.agg vs).cells.toList = vs.toList := by simp [Value.cells]
      rw [hv] at hc0 hc1 hc2
      generalize vs.toList = l at *
      match l, hlen' with
      | [a, b, c], _ =>
        simp at hc0 hc1 hc2
        subst hc0 hc1 hc2
        rfl
    rw [val, ← this]
  · have hbb : dd = DataW.agg [y0.1, y1.1, y2.1] := by
      have := congrArg Prod.fst hxx
      simpa using this
    rw [hbb] at hb
    simp only [Rows.uptoBulk, Rows.uptoBulkAll] at hb
    have k1 := sumI_nn ic
    exact ⟨hv0, fun o ho => makeOK_of (hw0 o ho), hv1, i1, i2, hv2, by omega, by omega, by omega, by omega⟩
end
end Go.Proofs.YtnmgjpcooncjlaaGreat
