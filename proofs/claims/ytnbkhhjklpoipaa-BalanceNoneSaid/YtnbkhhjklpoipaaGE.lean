/- Texts that belong together, joined: Reach, RefK, RefL, RefM, MapC, GarA, GarB. No conditions. -/
import Derived.Maps.RangeRun
import Derived.Test.YtnbkhhjklpoipaaGD
import Derived.Test.YtnbkhhjklpoipaaGB
/- What collect's Reach returns: the list of what the roots reach, in order. -/
set_option linter.unusedVariables false
set_option linter.unusedSimpArgs false
namespace Go.Proofs.Ytnbkhhjklpoipaa
open Go.Den

variable {w0 w : World} {Ω : List Ob} {most : Int} {T : List ET} {i : Nat} {p : Addr}

theorem collect_known_sp {id : Int} (s : Sp w0 Ω w) (i : Nat) (hi : Ω[i]? = some (sto p most T)) {K : Bool → World → Prop} (h : K (known T id) w) : C_collect_known (some p) id K w := by
  apply S_collect_known
  unfold F_collect_known
  refine gd_dec (fun h1 => intern_Len_sp s i hi ?_) (fun h1 => ?_)
  · have : decide (id ≤ (T.length : Int)) = known T id := by rw [known]; exact decide_eq_decide.2 (by omega)
    rw [this]; exact h
  · have : false = known T id := by simp [known]; omega
    rw [this]; exact h

/-- what a visit leaves -/
def vis (ids : List Int) (x : Int) : List Int := if x ∈ (0 : Int) :: ids then ids else ids ++ [x]
def St4 (a3 a1 r : Nat) (sl : Sl) (ids : List Int) (Ω : List Ob) : List Ob :=
  cel a3 [.map (some r)] :: cel a1 [.slice sl.a sl.len sl.cap] :: own (.int .i64) sl ids :: mp (.int .i64) .bool r (seenE ((0 : Int) :: ids)) :: Ω
theorem collect_visit_sp {a3 a1 r : Nat} {sl : Sl} {ids : List Int} {x : Int} (s : Sp w0 (St4 a3 a1 r sl ids Ω) w) (hN : ids.length ≤ 1000000000) {K : Unit → World → Prop}
    (h : ∀ sl' w', Sp w0 (St4 a3 a1 r sl' (vis ids x) Ω) w' → K () w') : C_collect_Reach_1 x ⟨a3, 0, none⟩ ⟨a1, 0, none⟩ K w := by
  apply S_collect_Reach_1
  unfold F_collect_Reach_1
  unfold St4 at s
  refine s.ldm0 (x := some r) 0 rfl rfl ⟨_, lk1_run (by decide) mapIB eqID (by simp) zeroIB (s.mp_ 3 rfl) x, ?_⟩
  rw [lk_seen]
  by_cases hm : x ∈ (0 : Int) :: ids
  · rw [if_pos hm]
    have hv : vis ids x = ids := if_pos hm
    rw [hv] at h
    exact gd_f rfl (h sl w s)
  · rw [if_neg hm]
    have hv : vis ids x = ids ++ [x] := if_neg hm
    rw [hv] at h
    refine gd_t rfl (s.ldm0 (x := some r) 0 rfl rfl (s.upNew 3 rfl (by decide) mapIB eqID (by simp) x true (by rw [lk_seen, if_neg hm]) fun w1 s => s.lds0 (x := sl) 1 rfl rfl ?_))
    refine s.allocK fun a5 w2 s => s.app 3 rfl ((s.lit (ty := .int .i64) 0 rfl [x] 1 rfl rfl).view 0 rfl) (by simp only [List.length_cons, List.length_nil]; omega) fun s6 w3 s => s.st0 2 rfl rfl rfl fun w4 s => h s6 _ ?_
    have s' := s.pop
    unfold St4
    rw [show ((0 : Int) :: (ids ++ [x])) = ((0 : Int) :: ids) ++ [x] from rfl, seenE_append]
    exact s'

/-- what is known of the list, while it grows -/
structure Vis (T : List ET) (S ids : List Int) : Prop where
  nodup : ids.Nodup
  rch : ∀ y ∈ ids, Rch T S y
theorem Vis.step {S ids : List Int} {x : Int} (v : Vis T S ids) (hx : x ≠ 0 → Rch T S x) : Vis T S (vis ids x) ∧ ids <+: vis ids x ∧ (x ≠ 0 → x ∈ vis ids x) := by
  unfold vis
  by_cases hm : x ∈ (0 : Int) :: ids
  · rw [if_pos hm]
    refine ⟨v, List.prefix_refl _, fun h => ?_⟩
    rcases List.mem_cons.1 hm with h' | h'
    · exact absurd h' h
    · exact h'
  · rw [if_neg hm]
    have h0 : x ≠ 0 := fun e => hm (by rw [e]; simp)
    have hn : x ∉ ids := fun e => hm (List.mem_cons_of_mem _ e)
    refine ⟨⟨?_, fun y hy => ?_⟩, List.prefix_append _ _, fun _ => by simp⟩
    · rw [List.nodup_append]
      exact ⟨v.nodup, by simp, fun a ha b hb => by simp at hb; subst hb; exact fun e => hn (e ▸ ha)⟩
    · rcases List.mem_append.1 hy with h | h
      · exact v.rch y h
      · simp at h; subst h; exact hx h0
theorem Vis.bound {S ids : List Int} (g : Grow T) (hS : ∀ x ∈ S, 0 ≤ x ∧ x ≤ (T.length : Int)) (v : Vis T S ids) : (∀ y ∈ ids, 1 ≤ y ∧ y ≤ (T.length : Int)) ∧ ids.length ≤ T.length := by
  have h : ∀ y ∈ ids, 1 ≤ y ∧ y ≤ (T.length : Int) := fun y hy => (v.rch y hy).bound g hS
  exact ⟨h, nodup_bound v.nodup h⟩

theorem Rch.mono {S S' : List Int} (h : ∀ x ∈ S, x ∈ S') {x : Int} (r : Rch T S x) : Rch T S' x := by
  induction r with
  | root h1 h2 => exact .root (h _ h1) h2
  | ref _ h2 ih => exact .ref ih h2

theorem collect_Reach_sp {rsl : Sl} {S : List Int} (s : Sp w0 Ω w) (i : Nat) (hi : Ω[i]? = some (sto p most T)) (hv : ∀ w', Sp w0 Ω w' → View (.int .i64) w' rsl S) (hSN : S.length ≤ 1000000000) {K : Sl × Value → World → Prop}
    (h : (∀ x ∈ S, 0 ≤ x ∧ x ≤ (T.length : Int)) → ∀ sl w', Sp w0 (own (.int .i64) sl (rlist T S) :: Ω) w' → K (sl, .nilIface) w')
    (hbad : ¬ (∀ x ∈ S, 0 ≤ x ∧ x ≤ (T.length : Int)) → ∀ w', Sp w0 Ω w' → K (⟨none, 0, 0⟩, errV 1) w') : C_collect_Reach (some p) rsl K w := by
  apply S_collect_Reach
  unfold F_collect_Reach
  obtain ⟨_, _, _, hb0, hb1, hb2, hg⟩ := Sp.entry s i hi
  have hlen := (hv _ s).len
  refine gd_f rfl (s.allocK fun a1 w1 s => s.allocMap (.int .i64) .bool fun r w2 s => s.upNew 0 rfl (by decide) mapIB eqID (by simp) (0 : Int) true rfl fun w3 s => s.allocK fun a3 w4 s => s.st0 0 rfl rfl rfl fun w5 s => ?_)
  have s : Sp w0 (St4 a3 a1 r ⟨none, 0, 0⟩ [] Ω) w5 := (s.nil (.int .i64)).pick [1, 3, 0, 2] 4 rfl (by decide)
  refine loop_by (fun x => x.1) S.length (fun n _ w => (∀ x ∈ S.take n, 0 ≤ x ∧ x ≤ (T.length : Int)) ∧ ∃ sl ids, Vis T (S.take n) ids ∧ (∀ x ∈ S.take n, x ≠ 0 → x ∈ ids) ∧ Sp w0 (St4 a3 a1 r sl ids Ω) w) rfl ⟨by simp, ⟨none, 0, 0⟩, [], ⟨by simp, by simp⟩, by simp, s⟩ ?_
  rintro n ⟨x, _⟩ w6 hn hx ⟨hkn, sl, ids, hvis, hin, s⟩ _
  dsimp only at hx ⊢
  subst hx
  have hvb := hvis.bound hg hkn
  refine gd_dec (fun hlt => ?_) (fun hge => ?_)
  · have hn' : n < S.length := by omega
    have hget := List.getElem?_eq_getElem hn'
    have htk : S.take (n + 1) = S.take n ++ [S[n]] := by rw [List.take_add_one, hget]; rfl
    have hmem := List.getElem_mem hn'
    generalize S[n] = z at hget htk hmem
    refine (hv _ (s.drop 4)).idx rfl hget rfl fun q hq => ⟨z, hq, collect_known_sp s (i + 4) hi ?_⟩
    by_cases hz : 0 ≤ z ∧ z ≤ (T.length : Int)
    · rw [show known T z = true from decide_eq_true hz]
      refine gd_f rfl (collect_visit_sp s (by omega) fun sl' w7 s => arith_i64 (by omega) (by omega) (loop_nx hn' ?_))
      have v2 : Vis T (S.take (n + 1)) ids := ⟨hvis.nodup, fun y hy => (hvis.rch y hy).mono fun u hu => by rw [htk]; exact List.mem_append_left _ hu⟩
      obtain ⟨v3, v4, v5⟩ := v2.step (x := z) fun h0 => .root (by rw [htk]; simp) h0
      refine ⟨fun u hu => ?_, sl', vis ids z, v3, fun u hu h0 => ?_, s⟩
      · rw [htk] at hu
        rcases List.mem_append.1 hu with h | h
        · exact hkn u h
        · simp at h; subst h; exact hz
      · rw [htk] at hu
        rcases List.mem_append.1 hu with h | h
        · exact v4.subset (hin u h h0)
        · simp at h; subst h; exact v5 h0
    · rw [show known T z = false from decide_eq_false hz]
      exact gd_t rfl (hbad (fun h => hz (h z hmem)) _ (s.drop 4))
  have hn' : n = S.length := by omega
  subst hn'
  rw [List.take_length] at hkn hvis hin
  refine ⟨fun x w => ∃ (sl : Sl) (ids : List Int) (k : Nat), x.1 = (k : Int) ∧ k ≤ ids.length ∧ Vis T S ids ∧ (∀ x ∈ S, x ≠ 0 → x ∈ ids) ∧ (∀ j, j < k → ∀ y : Int, ids[j]? = some y → ∀ z ∈ refs (eAt T y).1, z ∈ ids) ∧ Sp w0 (St4 a3 a1 r sl ids Ω) w,
    fun x _ => ((T.length : Int) - x.1).toNat, ⟨sl, ids, 0, rfl, Nat.zero_le _, hvis, hin, fun j hj => by omega, s⟩, ?_⟩
  clear hvb hvis hin
  rintro ⟨x, _⟩ w7 ⟨sl, ids, k, hx, hk, hvis, hin, hcl, s⟩ _
  dsimp only at hx ⊢
  subst hx
  have hvb := hvis.bound hg hkn
  have hlen2 := (s.view 2 rfl).len
  refine s.lds0 (x := sl) 1 rfl rfl (gd_dec (fun hlt => ?_) (fun hge => ?_))
  · have hk' : k < ids.length := by omega
    obtain ⟨y, hy⟩ : ∃ y : Int, ids[k]? = some y := ⟨_, List.getElem?_eq_getElem hk'⟩
    have hyb := hvb.1 y (List.mem_of_getElem? hy)
    refine s.lds0 (x := sl) 1 rfl rfl ((s.view 2 rfl).idx rfl hy rfl fun q hq => ⟨y, hq, intern_Rule_k s (i + 4) hi hyb fun w8 s => s.allocK fun a18 w9 s => s.st0 0 rfl rfl rfl fun w10 s => nilIfc_nil (gd_f rfl (s.ld0 (ty := yapi_Rule) (x := (eAt T y).1) 0 rfl rfl (rule_Refs_spec s fun rl w11 s => ?_)))⟩)
    have hrl := refs_len (eAt T y).1
    have s : Sp w0 (St4 a3 a1 r sl ids (own (.int .i64) rl (refs (eAt T y).1) :: Ω)) w11 := s.pick [2, 3, 4, 5, 0] 6 rfl (by decide)
    refine loop_by (fun x => x.1) (refs (eAt T y).1).length (fun n _ w => ∃ sl' ids', Vis T S ids' ∧ ids <+: ids' ∧ (∀ j, j < n → ∀ z : Int, (refs (eAt T y).1)[j]? = some z → z ∈ ids') ∧
      Sp w0 (St4 a3 a1 r sl' ids' (own (.int .i64) rl (refs (eAt T y).1) :: Ω)) w) rfl ⟨sl, ids, hvis, List.prefix_refl _, fun j hj => by omega, s⟩ ?_
    rintro n ⟨x, _⟩ w12 hn hx ⟨sl', ids', hvis', hpre, hr, s⟩ _
    dsimp only at hx ⊢
    subst hx
    have hvb' := hvis'.bound hg hkn
    have hrlen := (s.view 4 rfl).len
    refine gd_dec (fun hlt2 => ?_) (fun hge2 => ?_)
    · have hn' : n < (refs (eAt T y).1).length := by omega
      obtain ⟨z, hz⟩ : ∃ z : Int, (refs (eAt T y).1)[n]? = some z := ⟨_, List.getElem?_eq_getElem hn'⟩
      have hzm := List.mem_of_getElem? hz
      have hzb := refs_in hg hyb.1 hyb.2 hzm
      refine (s.view 4 rfl).idx rfl hz rfl fun q hq => ⟨z, hq, collect_visit_sp s (by omega) fun sl3 w13 s => arith_i64 (by omega) (by omega) (loop_nx hn' ?_)⟩
      obtain ⟨v3, v4, v5⟩ := hvis'.step (x := z) fun _ => .ref (hvis.rch y (List.mem_of_getElem? hy)) hzm
      refine ⟨sl3, vis ids' z, v3, hpre.trans v4, fun j hj u hu => ?_, s⟩
      by_cases hjn : j < n
      · exact v4.subset (hr j hjn u hu)
      · have : j = n := by omega
        subst this
        rw [hz] at hu; cases hu; exact v5 (by omega)
    · refine arith_i64 (by omega) (by omega) ⟨⟨sl', ids', k + 1, rfl, ?_, hvis', fun u hu h0 => hpre.subset (hin u hu h0), fun j hj u hu z hz => ?_, s.pick [0, 1, 2, 3] 5 rfl (by decide)⟩, by omega⟩
      · have := hpre.length_le; omega
      · have hju : ids[j]? = some u := by
          obtain ⟨t, rfl⟩ := hpre
          rwa [List.getElem?_append_left (by omega)] at hu
        by_cases hjk : j < k
        · exact hpre.subset (hcl j hjk u hju z hz)
        · have : j = k := by omega
          subst this
          rw [hy] at hju
          cases hju
          obtain ⟨j2, hj2⟩ := List.getElem?_of_mem hz
          exact hr j2 (by have := (List.getElem?_eq_some_iff.1 hj2).1; omega) z hj2
  · refine s.lds0 (x := sl) 1 rfl rfl (slices_Sort_sp s 2 rfl (by omega) fun w8 s => s.lds0 (x := sl) 1 rfl rfl ?_)
    have hmem : ∀ x : Int, x ∈ ids ↔ Rch T S x := fun x => by
      refine ⟨fun hx => hvis.rch x hx, fun hx => ?_⟩
      induction hx with
      | root h1 h2 => exact hin _ h1 h2
      | ref _ h2 ih =>
        obtain ⟨j, hj⟩ := List.getElem?_of_mem ih
        exact hcl j (by have := (List.getElem?_eq_some_iff.1 hj).1; omega) _ hj _ h2
    have s' : Sp w0 (cel a3 [.map (some r)] :: cel a1 [.slice sl.a sl.len sl.cap] :: own (.int .i64) sl (srt ids) :: mp (.int .i64) .bool r (seenE ((0 : Int) :: ids)) :: Ω) w8 := s
    rw [srt_rlist hg hkn hvis.nodup hmem] at s'
    exact h hkn sl _ (s'.pick [2] 4 rfl (by decide))

end Go.Proofs.Ytnbkhhjklpoipaa

/- The specification's stores (evergreenref12): Known, Length, Add. The walk of Add's orders of evaluation is printed by wip/gen/walk12.py. -/
set_option linter.unusedVariables false
set_option linter.unusedSimpArgs false
namespace Go.Proofs.Ytnbkhhjklpoipaa
open Go.Den

variable {w0 w : World} {Ω : List Ob} {most : Int} {T : List ET} {j : Nat} {m : yevergreenref12_Store.T}

/-- the specification's store of the rules T -/
def rf2 (m : yevergreenref12_Store.T) (T : List ET) : Ob :=
  ⟨true, fun B w => View yapi_Rule w m.1 (rulesOf T) ∧ View (.int .i64) w m.2 (lensOf T) ∧ @LE.le Nat _ m.1.len m.1.cap ∧ ∀ b, blk m.1 b ∨ blk m.2 b → B b,
    fun h f hB => ⟨h.1.fr f fun b hb => hB b (h.2.2.2 b (Or.inl hb)), h.2.1.fr f fun b hb => hB b (h.2.2.2 b (Or.inr hb)), h.2.2.1, h.2.2.2⟩⟩
theorem Sp.rf2_ (s : Sp w0 Ω w) (j : Nat) (h : Ω[j]? = some (rf2 m T)) : View yapi_Rule w m.1 (rulesOf T) ∧ View (.int .i64) w m.2 (lensOf T) := by
  obtain ⟨B, h, _⟩ := s.get j h
  exact ⟨h.1, h.2.1⟩
theorem Sp.rf2c (s : Sp w0 Ω w) (j : Nat) (h : Ω[j]? = some (rf2 m T)) : @LE.le Nat _ m.1.len m.1.cap := by
  obtain ⟨B, h, _⟩ := s.get j h
  exact h.2.2.1
theorem Sp.rf20 (s : Sp w0 Ω w) : Sp w0 (rf2 ((⟨none, 0, 0⟩ : Sl), (⟨none, 0, 0⟩ : Sl)) [] :: Ω) w := by
  refine s.push (B := fun _ => False) (.refl _ _) ⟨.nil, .nil, Nat.le_refl _, ?_⟩ (fun _ h => h.elim)
  rintro b (h | h) <;> exact blk_none h
theorem ref12_Known_spec {id : Int} (s : Sp w0 Ω w) (j : Nat) (hj : Ω[j]? = some (rf2 m T)) {K : Bool → World → Prop} (h : ∀ w', Sp w0 Ω w' → K (known T id) w') : C_ref12_Known m id K w := by
  apply S_ref12_Known
  unfold F_ref12_Known
  have e := (Sp.rf2_ s j hj).1.len
  rw [rulesOf_len] at e
  refine s.allocK fun b w1 s1 => gd_dec (fun h1 => s1.lds (x := m.1) 0 0 rfl rfl ?_) (fun h1 => ?_)
  · have : decide (id ≤ (m.1.len : Int)) = known T id := by rw [e, known]; exact decide_eq_decide.2 (by omega)
    rw [this]; exact h _ s1.pop
  · have : false = known T id := by simp [known]; omega
    rw [this]; exact h _ s1.pop
theorem ref12_Length_spec {id : Int} (s : Sp w0 Ω w) (j : Nat) (hj : Ω[j]? = some (rf2 m T)) (hk : known T id = true) (hl : T.length ≤ 1048576) {K : Int → World → Prop} (h : ∀ w', Sp w0 Ω w' → K (eAt T id).2.1.1 w') : C_ref12_Length m id K w := by
  apply S_ref12_Length
  unfold F_ref12_Length
  refine s.allocK fun b w1 s1 => gd_eq (fun e => ?_) (fun e => ?_)
  · subst e; exact h _ s1.pop
  · have hk' := of_decide_eq_true hk
    have h3 := eAt_get (L := T) (id := id) (by omega) hk'.2
    have hv := (Sp.rf2_ s1 (j + 1) hj).2
    exact s1.lds (x := m.2) 0 1 rfl rfl (arith_i64 (by omega) (by omega) (hv.idx (n := (id - 1).toNat) (x := (eAt T id).2.1.1) (by omega) (by rw [lensOf, List.getElem?_map, h3]; rfl) rfl fun q hq => ⟨_, hq, h _ s1.pop⟩))

theorem lkR_no {L : List ET} {r : RT} (h : lkR L r = none) : ∀ e ∈ L, e.1 ≠ r := by
  intro e he hr
  unfold lkR lk at h
  rw [Option.map_eq_none_iff, List.find?_eq_none] at h
  obtain ⟨n, hn⟩ := List.getElem?_of_mem he
  have hm : (e.1, (n : Int) + 1) ∈ idx L := by unfold idx; exact List.mem_map.2 ⟨(e, n), List.mem_zipIdx_iff_getElem?.2 hn, rfl⟩
  exact h _ hm ((beqT_iff yapi_Rule rfl _ _).2 hr.symm)
set_option maxHeartbeats 0 in
theorem ref12_Add_new {e : ET} {len : Int} (hlen : len = e.2.1.1) (s : Sp w0 Ω w) (j : Nat) (hj : Ω[j]? = some (rf2 m T)) (hl : T.length < 1048576) (hn : lkR T e.1 = none) {K : yevergreenref12_Store.T × Int → World → Prop}
    (h0 : ∀ m' w', Sp w0 (rf2 m' (T ++ [e]) :: Ω) w' → K (m', (T.length : Int) + 1) w') : C_ref12_Add m e.1 len K w := by
  apply S_ref12_Add
  unfold F_ref12_Add
  refine s.allocK fun a1 w1 s => s.allocK fun a2 w2 s => s.allocK fun a3 w3 s => ?_
  have hlr := (Sp.rf2_ s (j + 3) hj).1.len
  rw [rulesOf_len] at hlr
  have hrl := rulesOf_len T
  have hll := lensOf_len T
  refine loop_by (fun x => x.1) T.length (fun n _ w => Sp w0 (cel a3 [.slice none 0 0, .slice none 0 0] :: cel a2 (cells yapi_Rule e.1) :: cel a1 (cells yevergreenref12_Store m) :: Ω) w) rfl s ?_
  rintro n ⟨x, _⟩ w4 hnn hx s _
  dsimp only at hx ⊢
  subst hx
  refine s.lds (x := m.1) 2 0 rfl rfl (gd_dec (fun hlt => s.drawK fun w5 s => s.lds (x := m.1) 2 0 rfl rfl ?_) (fun hge => ?_))
  · have hn' : n < T.length := by omega
    have he : T[n]? = some T[n] := List.getElem?_eq_getElem hn'
    refine (Sp.rf2_ s (j + 3) hj).1.idx rfl (x := T[n].1) (by rw [rulesOf, List.getElem?_map, he]; rfl) rfl fun q hq => ⟨_, hq, s.ld0 1 rfl rfl (rule_eql (gd_dec (fun e1 => ?_) (fun e1 => arith_i64 (by omega) (by omega) (loop_nx hn' s))))⟩
    exact absurd e1 (lkR_no hn _ (List.getElem_mem hn'))
  · have h : ∀ (sA sB : Sl) w', Sp w0 (own yapi_Rule sA (rulesOf T ++ [e.1]) :: own (.int .i64) sB (lensOf T ++ [len]) :: Ω) w' → K ((sA, sB), (m.1.len : Int) + 1) w' := fun sA sB w' s => by
      rw [hlr]
      refine h0 (sA, sB) _ (s.fold 2 _ (Or.inl rfl) fun f hP _ => ?_)
      have o1 := (hP 0 _ (by decide) rfl).1
      have o2 := (hP 1 _ (by decide) rfl).1
      refine ⟨?_, ?_, o1.1.cap, ?_⟩
      · rw [rulesOf_append]; exact o1.1.view
      · rw [lensOf_append, ← hlen]; exact o2.1.view
      · rintro b (hb | hb)
        · exact ⟨0, by decide, by simp, o1.2 b hb⟩
        · exact ⟨1, by decide, by simp, o2.2 b hb⟩
    have b1 : (([] : List yapi_Rule.T).length + (rulesOf T).length) * 40 ≤ 140737488355328 := by simp only [List.length_nil]; omega
    have b2 : ((([] : List yapi_Rule.T) ++ rulesOf T).length + [e.1].length) * 40 ≤ 140737488355328 := by simp only [List.nil_append, List.length_cons, List.length_nil]; omega
    have b3 : (([] : List (Ty.int .i64).T).length + (lensOf T).length) * 8 ≤ 140737488355328 := by simp only [List.length_nil]; omega
    have b4 : ((([] : List (Ty.int .i64).T) ++ lensOf T).length + [len].length) * 8 ≤ 140737488355328 := by simp only [List.nil_append, List.length_cons, List.length_nil]; omega
    refine s.drawK fun w7 s => s.lds (x := m.1) 2 0 rfl rfl (s.ld0 (ty := yapi_Rule) (x := e.1) 1 rfl rfl (s.lds (x := m.2) 2 1 rfl rfl (s.lds (x := m.1) 2 0 rfl rfl (arith_i64 (by omega) (by omega) ?_))))
    exact
⟨s.allocK fun a21 w8 s => ⟨s.still 3 0 rfl rfl, ⟨s.still 3 1 rfl rfl, ⟨s.at_ 2 rfl, ⟨s.still 3 0 rfl rfl, ⟨(s.lit (ty := yapi_Rule) 0 rfl [] 0 rfl rfl).app 0 rfl (Sp.rf2_ s (j + 4) hj).1 b1 fun s22 w9 s => ⟨s.still 3 0 rfl rfl, ⟨s.still 3 1 rfl rfl, ⟨s.at_ 2 rfl, ⟨s.allocK fun a23 w10 s => ⟨s.still 4 0 rfl rfl, ⟨s.still 4 1 rfl rfl, ⟨s.app 1 rfl ((s.lit (ty := yapi_Rule) 0 rfl [e.1] 1 (by simp [flat]) rfl).view 0 rfl) b2 fun s24 w11 s => ⟨s.still 4 0 rfl rfl, ⟨s.still 4 1 rfl rfl, ⟨s.allocK fun a25 w12 s => ⟨s.still 5 0 rfl rfl, ⟨s.still 5 1 rfl rfl, ⟨(s.lit (ty := .int .i64) 0 rfl [] 0 rfl rfl).app 0 rfl (Sp.rf2_ s (j + 6) hj).2 b3 fun s26 w13 s => ⟨s.still 5 0 rfl rfl, s.allocK fun a27 w14 s => ⟨s.still 6 0 rfl rfl, s.app 1 rfl ((s.lit (ty := .int .i64) 0 rfl [len] 1 rfl rfl).view 0 rfl) b4 fun s28 w15 s => ⟨s.still 6 0 rfl rfl, s.st0 4 rfl rfl rfl fun w16 s => ⟨s.still 6 0 rfl rfl, s.ld0 (ty := yevergreenref12_Store) (x := (s24, s28)) 4 rfl rfl (h _ _ _ (s.pick [3, 1] 7 rfl (by decide)))⟩⟩⟩⟩,
s.allocK fun a30 w17 s => ⟨s.still 6 0 rfl rfl, ⟨s.still 6 1 rfl rfl, (s.lit (ty := .int .i64) 1 rfl [] 0 rfl rfl).app 1 rfl (Sp.rf2_ s (j + 7) hj).2 b3 fun s31 w18 s => ⟨s.still 6 0 rfl rfl, s.app 1 rfl ((s.lit (ty := .int .i64) 0 rfl [len] 1 rfl rfl).view 0 rfl) b4 fun s32 w19 s => ⟨s.still 6 0 rfl rfl, s.st0 4 rfl rfl rfl fun w20 s => ⟨s.still 6 0 rfl rfl, s.ld0 (ty := yevergreenref12_Store) (x := (s24, s32)) 4 rfl rfl (h _ _ _ (s.pick [3, 1] 7 rfl (by decide)))⟩⟩⟩⟩⟩⟩⟩⟩,
s.allocK fun a34 w21 s => ⟨s.still 5 0 rfl rfl, ⟨s.still 5 1 rfl rfl, s.allocK fun a35 w22 s => ⟨s.still 6 0 rfl rfl, ⟨s.still 6 1 rfl rfl, (s.lit (ty := .int .i64) 0 rfl [] 0 rfl rfl).app 0 rfl (Sp.rf2_ s (j + 7) hj).2 b3 fun s36 w23 s => ⟨s.still 6 0 rfl rfl, s.app 0 rfl ((s.lit (ty := .int .i64) 1 rfl [len] 1 rfl rfl).view 1 rfl) b4 fun s37 w24 s => ⟨s.still 6 0 rfl rfl, s.st0 4 rfl rfl rfl fun w25 s => ⟨s.still 6 0 rfl rfl, s.ld0 (ty := yevergreenref12_Store) (x := (s24, s37)) 4 rfl rfl (h _ _ _ (s.pick [3, 0] 7 rfl (by decide)))⟩⟩⟩⟩⟩⟩⟩⟩⟩⟩,
⟨s.allocK fun a39 w26 s => ⟨s.still 5 0 rfl rfl, ⟨s.still 5 1 rfl rfl, ⟨s.app 2 rfl ((s.lit (ty := yapi_Rule) 1 rfl [e.1] 1 (by simp [flat]) rfl).view 1 rfl) b2 fun s40 w27 s => ⟨s.still 5 0 rfl rfl, ⟨s.still 5 1 rfl rfl, ⟨(s.lit (ty := .int .i64) 0 rfl [] 0 rfl rfl).app 0 rfl (Sp.rf2_ s (j + 6) hj).2 b3 fun s41 w28 s => ⟨s.still 5 0 rfl rfl, s.allocK fun a42 w29 s => ⟨s.still 6 0 rfl rfl, s.app 1 rfl ((s.lit (ty := .int .i64) 0 rfl [len] 1 rfl rfl).view 0 rfl) b4 fun s43 w30 s => ⟨s.still 6 0 rfl rfl, s.st0 4 rfl rfl rfl fun w31 s => ⟨s.still 6 0 rfl rfl, s.ld0 (ty := yevergreenref12_Store) (x := (s40, s43)) 4 rfl rfl (h _ _ _ (s.pick [3, 1] 7 rfl (by decide)))⟩⟩⟩⟩,
s.allocK fun a45 w32 s => ⟨s.still 6 0 rfl rfl, ⟨s.still 6 1 rfl rfl, (s.lit (ty := .int .i64) 1 rfl [] 0 rfl rfl).app 1 rfl (Sp.rf2_ s (j + 7) hj).2 b3 fun s46 w33 s => ⟨s.still 6 0 rfl rfl, s.app 1 rfl ((s.lit (ty := .int .i64) 0 rfl [len] 1 rfl rfl).view 0 rfl) b4 fun s47 w34 s => ⟨s.still 6 0 rfl rfl, s.st0 4 rfl rfl rfl fun w35 s => ⟨s.still 6 0 rfl rfl, s.ld0 (ty := yevergreenref12_Store) (x := (s40, s47)) 4 rfl rfl (h _ _ _ (s.pick [3, 1] 7 rfl (by decide)))⟩⟩⟩⟩⟩⟩⟩⟩,
s.allocK fun a49 w36 s => ⟨s.still 6 0 rfl rfl, ⟨s.still 6 1 rfl rfl, s.app 3 rfl ((s.lit (ty := yapi_Rule) 2 rfl [e.1] 1 (by simp [flat]) rfl).view 2 rfl) b2 fun s50 w37 s => ⟨s.still 6 0 rfl rfl, ⟨s.still 6 1 rfl rfl, (s.lit (ty := .int .i64) 1 rfl [] 0 rfl rfl).app 1 rfl (Sp.rf2_ s (j + 7) hj).2 b3 fun s51 w38 s => ⟨s.still 6 0 rfl rfl, s.app 1 rfl ((s.lit (ty := .int .i64) 0 rfl [len] 1 rfl rfl).view 0 rfl) b4 fun s52 w39 s => ⟨s.still 6 0 rfl rfl, s.st0 4 rfl rfl rfl fun w40 s => ⟨s.still 6 0 rfl rfl, s.ld0 (ty := yevergreenref12_Store) (x := (s50, s52)) 4 rfl rfl (h _ _ _ (s.pick [3, 1] 7 rfl (by decide)))⟩⟩⟩⟩⟩⟩⟩⟩⟩⟩,
s.allocK fun a54 w41 s => ⟨s.still 5 0 rfl rfl, ⟨s.still 5 1 rfl rfl, ⟨s.app 2 rfl ((s.lit (ty := yapi_Rule) 1 rfl [e.1] 1 (by simp [flat]) rfl).view 1 rfl) b2 fun s55 w42 s => ⟨s.still 5 0 rfl rfl, ⟨s.still 5 1 rfl rfl, s.allocK fun a56 w43 s => ⟨s.still 6 0 rfl rfl, ⟨s.still 6 1 rfl rfl, (s.lit (ty := .int .i64) 0 rfl [] 0 rfl rfl).app 0 rfl (Sp.rf2_ s (j + 7) hj).2 b3 fun s57 w44 s => ⟨s.still 6 0 rfl rfl, s.app 0 rfl ((s.lit (ty := .int .i64) 1 rfl [len] 1 rfl rfl).view 1 rfl) b4 fun s58 w45 s => ⟨s.still 6 0 rfl rfl, s.st0 4 rfl rfl rfl fun w46 s => ⟨s.still 6 0 rfl rfl, s.ld0 (ty := yevergreenref12_Store) (x := (s55, s58)) 4 rfl rfl (h _ _ _ (s.pick [3, 0] 7 rfl (by decide)))⟩⟩⟩⟩⟩⟩⟩,
s.allocK fun a60 w47 s => ⟨s.still 6 0 rfl rfl, ⟨s.still 6 1 rfl rfl, s.app 3 rfl ((s.lit (ty := yapi_Rule) 2 rfl [e.1] 1 (by simp [flat]) rfl).view 2 rfl) b2 fun s61 w48 s => ⟨s.still 6 0 rfl rfl, ⟨s.still 6 1 rfl rfl, (s.lit (ty := .int .i64) 0 rfl [] 0 rfl rfl).app 0 rfl (Sp.rf2_ s (j + 7) hj).2 b3 fun s62 w49 s => ⟨s.still 6 0 rfl rfl, s.app 0 rfl ((s.lit (ty := .int .i64) 1 rfl [len] 1 rfl rfl).view 1 rfl) b4 fun s63 w50 s => ⟨s.still 6 0 rfl rfl, s.st0 4 rfl rfl rfl fun w51 s => ⟨s.still 6 0 rfl rfl, s.ld0 (ty := yevergreenref12_Store) (x := (s61, s63)) 4 rfl rfl (h _ _ _ (s.pick [3, 0] 7 rfl (by decide)))⟩⟩⟩⟩⟩⟩⟩⟩⟩⟩⟩⟩⟩⟩,
⟨s.allocK fun a65 w52 s => ⟨s.still 4 0 rfl rfl, ⟨s.still 4 1 rfl rfl, ⟨s.at_ 3 rfl, ⟨s.allocK fun a66 w53 s => ⟨s.still 5 0 rfl rfl, ⟨s.still 5 1 rfl rfl, ⟨s.app 2 rfl ((s.lit (ty := yapi_Rule) 0 rfl [e.1] 1 (by simp [flat]) rfl).view 0 rfl) b2 fun s67 w54 s => ⟨s.still 5 0 rfl rfl, ⟨s.still 5 1 rfl rfl, ⟨(s.lit (ty := .int .i64) 1 rfl [] 0 rfl rfl).app 1 rfl (Sp.rf2_ s (j + 6) hj).2 b3 fun s68 w55 s => ⟨s.still 5 0 rfl rfl, s.allocK fun a69 w56 s => ⟨s.still 6 0 rfl rfl, s.app 2 rfl ((s.lit (ty := .int .i64) 0 rfl [len] 1 rfl rfl).view 0 rfl) b4 fun s70 w57 s => ⟨s.still 6 0 rfl rfl, s.st0 4 rfl rfl rfl fun w58 s => ⟨s.still 6 0 rfl rfl, s.ld0 (ty := yevergreenref12_Store) (x := (s67, s70)) 4 rfl rfl (h _ _ _ (s.pick [3, 2] 7 rfl (by decide)))⟩⟩⟩⟩,
s.allocK fun a72 w59 s => ⟨s.still 6 0 rfl rfl, ⟨s.still 6 1 rfl rfl, (s.lit (ty := .int .i64) 2 rfl [] 0 rfl rfl).app 2 rfl (Sp.rf2_ s (j + 7) hj).2 b3 fun s73 w60 s => ⟨s.still 6 0 rfl rfl, s.app 2 rfl ((s.lit (ty := .int .i64) 0 rfl [len] 1 rfl rfl).view 0 rfl) b4 fun s74 w61 s => ⟨s.still 6 0 rfl rfl, s.st0 4 rfl rfl rfl fun w62 s => ⟨s.still 6 0 rfl rfl, s.ld0 (ty := yevergreenref12_Store) (x := (s67, s74)) 4 rfl rfl (h _ _ _ (s.pick [3, 2] 7 rfl (by decide)))⟩⟩⟩⟩⟩⟩⟩⟩,
s.allocK fun a76 w63 s => ⟨s.still 6 0 rfl rfl, ⟨s.still 6 1 rfl rfl, s.app 3 rfl ((s.lit (ty := yapi_Rule) 1 rfl [e.1] 1 (by simp [flat]) rfl).view 1 rfl) b2 fun s77 w64 s => ⟨s.still 6 0 rfl rfl, ⟨s.still 6 1 rfl rfl, (s.lit (ty := .int .i64) 2 rfl [] 0 rfl rfl).app 2 rfl (Sp.rf2_ s (j + 7) hj).2 b3 fun s78 w65 s => ⟨s.still 6 0 rfl rfl, s.app 2 rfl ((s.lit (ty := .int .i64) 0 rfl [len] 1 rfl rfl).view 0 rfl) b4 fun s79 w66 s => ⟨s.still 6 0 rfl rfl, s.st0 4 rfl rfl rfl fun w67 s => ⟨s.still 6 0 rfl rfl, s.ld0 (ty := yevergreenref12_Store) (x := (s77, s79)) 4 rfl rfl (h _ _ _ (s.pick [3, 2] 7 rfl (by decide)))⟩⟩⟩⟩⟩⟩⟩⟩⟩⟩,
s.allocK fun a81 w68 s => ⟨s.still 5 0 rfl rfl, ⟨s.still 5 1 rfl rfl, ⟨s.at_ 4 rfl, s.allocK fun a82 w69 s => ⟨s.still 6 0 rfl rfl, ⟨s.still 6 1 rfl rfl, s.app 3 rfl ((s.lit (ty := yapi_Rule) 0 rfl [e.1] 1 (by simp [flat]) rfl).view 0 rfl) b2 fun s83 w70 s => ⟨s.still 6 0 rfl rfl, ⟨s.still 6 1 rfl rfl, (s.lit (ty := .int .i64) 2 rfl [] 0 rfl rfl).app 2 rfl (Sp.rf2_ s (j + 7) hj).2 b3 fun s84 w71 s => ⟨s.still 6 0 rfl rfl, s.app 2 rfl ((s.lit (ty := .int .i64) 1 rfl [len] 1 rfl rfl).view 1 rfl) b4 fun s85 w72 s => ⟨s.still 6 0 rfl rfl, s.st0 4 rfl rfl rfl fun w73 s => ⟨s.still 6 0 rfl rfl, s.ld0 (ty := yevergreenref12_Store) (x := (s83, s85)) 4 rfl rfl (h _ _ _ (s.pick [3, 2] 7 rfl (by decide)))⟩⟩⟩⟩⟩⟩⟩⟩⟩⟩⟩⟩⟩⟩,
s.allocK fun a87 w74 s => ⟨s.still 4 0 rfl rfl, ⟨s.still 4 1 rfl rfl, ⟨s.at_ 3 rfl, ⟨s.allocK fun a88 w75 s => ⟨s.still 5 0 rfl rfl, ⟨s.still 5 1 rfl rfl, ⟨s.app 2 rfl ((s.lit (ty := yapi_Rule) 0 rfl [e.1] 1 (by simp [flat]) rfl).view 0 rfl) b2 fun s89 w76 s => ⟨s.still 5 0 rfl rfl, ⟨s.still 5 1 rfl rfl, s.allocK fun a90 w77 s => ⟨s.still 6 0 rfl rfl, ⟨s.still 6 1 rfl rfl, (s.lit (ty := .int .i64) 0 rfl [] 0 rfl rfl).app 0 rfl (Sp.rf2_ s (j + 7) hj).2 b3 fun s91 w78 s => ⟨s.still 6 0 rfl rfl, s.app 0 rfl ((s.lit (ty := .int .i64) 2 rfl [len] 1 rfl rfl).view 2 rfl) b4 fun s92 w79 s => ⟨s.still 6 0 rfl rfl, s.st0 4 rfl rfl rfl fun w80 s => ⟨s.still 6 0 rfl rfl, s.ld0 (ty := yevergreenref12_Store) (x := (s89, s92)) 4 rfl rfl (h _ _ _ (s.pick [3, 0] 7 rfl (by decide)))⟩⟩⟩⟩⟩⟩⟩,
s.allocK fun a94 w81 s => ⟨s.still 6 0 rfl rfl, ⟨s.still 6 1 rfl rfl, s.app 3 rfl ((s.lit (ty := yapi_Rule) 1 rfl [e.1] 1 (by simp [flat]) rfl).view 1 rfl) b2 fun s95 w82 s => ⟨s.still 6 0 rfl rfl, ⟨s.still 6 1 rfl rfl, (s.lit (ty := .int .i64) 0 rfl [] 0 rfl rfl).app 0 rfl (Sp.rf2_ s (j + 7) hj).2 b3 fun s96 w83 s => ⟨s.still 6 0 rfl rfl, s.app 0 rfl ((s.lit (ty := .int .i64) 2 rfl [len] 1 rfl rfl).view 2 rfl) b4 fun s97 w84 s => ⟨s.still 6 0 rfl rfl, s.st0 4 rfl rfl rfl fun w85 s => ⟨s.still 6 0 rfl rfl, s.ld0 (ty := yevergreenref12_Store) (x := (s95, s97)) 4 rfl rfl (h _ _ _ (s.pick [3, 0] 7 rfl (by decide)))⟩⟩⟩⟩⟩⟩⟩⟩⟩⟩,
s.allocK fun a99 w86 s => ⟨s.still 5 0 rfl rfl, ⟨s.still 5 1 rfl rfl, ⟨s.at_ 4 rfl, s.allocK fun a100 w87 s => ⟨s.still 6 0 rfl rfl, ⟨s.still 6 1 rfl rfl, s.app 3 rfl ((s.lit (ty := yapi_Rule) 0 rfl [e.1] 1 (by simp [flat]) rfl).view 0 rfl) b2 fun s101 w88 s => ⟨s.still 6 0 rfl rfl, ⟨s.still 6 1 rfl rfl, (s.lit (ty := .int .i64) 1 rfl [] 0 rfl rfl).app 1 rfl (Sp.rf2_ s (j + 7) hj).2 b3 fun s102 w89 s => ⟨s.still 6 0 rfl rfl, s.app 1 rfl ((s.lit (ty := .int .i64) 2 rfl [len] 1 rfl rfl).view 2 rfl) b4 fun s103 w90 s => ⟨s.still 6 0 rfl rfl, s.st0 4 rfl rfl rfl fun w91 s => ⟨s.still 6 0 rfl rfl, s.ld0 (ty := yevergreenref12_Store) (x := (s101, s103)) 4 rfl rfl (h _ _ _ (s.pick [3, 1] 7 rfl (by decide)))⟩⟩⟩⟩⟩⟩⟩⟩⟩⟩⟩⟩⟩⟩⟩⟩⟩⟩⟩,
⟨s.allocK fun a105 w92 s => ⟨s.still 4 0 rfl rfl, ⟨s.still 4 1 rfl rfl, ⟨s.still 4 0 rfl rfl, ⟨(s.lit (ty := yapi_Rule) 1 rfl [] 0 rfl rfl).app 1 rfl (Sp.rf2_ s (j + 5) hj).1 b1 fun s106 w93 s => ⟨s.still 4 0 rfl rfl, ⟨s.still 4 1 rfl rfl, ⟨s.app 1 rfl ((s.lit (ty := yapi_Rule) 0 rfl [e.1] 1 (by simp [flat]) rfl).view 0 rfl) b2 fun s107 w94 s => ⟨s.still 4 0 rfl rfl, ⟨s.still 4 1 rfl rfl, ⟨s.allocK fun a108 w95 s => ⟨s.still 5 0 rfl rfl, ⟨s.still 5 1 rfl rfl, ⟨(s.lit (ty := .int .i64) 0 rfl [] 0 rfl rfl).app 0 rfl (Sp.rf2_ s (j + 6) hj).2 b3 fun s109 w96 s => ⟨s.still 5 0 rfl rfl, s.allocK fun a110 w97 s => ⟨s.still 6 0 rfl rfl, s.app 1 rfl ((s.lit (ty := .int .i64) 0 rfl [len] 1 rfl rfl).view 0 rfl) b4 fun s111 w98 s => ⟨s.still 6 0 rfl rfl, s.st0 4 rfl rfl rfl fun w99 s => ⟨s.still 6 0 rfl rfl, s.ld0 (ty := yevergreenref12_Store) (x := (s107, s111)) 4 rfl rfl (h _ _ _ (s.pick [3, 1] 7 rfl (by decide)))⟩⟩⟩⟩,
s.allocK fun a113 w100 s => ⟨s.still 6 0 rfl rfl, ⟨s.still 6 1 rfl rfl, (s.lit (ty := .int .i64) 1 rfl [] 0 rfl rfl).app 1 rfl (Sp.rf2_ s (j + 7) hj).2 b3 fun s114 w101 s => ⟨s.still 6 0 rfl rfl, s.app 1 rfl ((s.lit (ty := .int .i64) 0 rfl [len] 1 rfl rfl).view 0 rfl) b4 fun s115 w102 s => ⟨s.still 6 0 rfl rfl, s.st0 4 rfl rfl rfl fun w103 s => ⟨s.still 6 0 rfl rfl, s.ld0 (ty := yevergreenref12_Store) (x := (s107, s115)) 4 rfl rfl (h _ _ _ (s.pick [3, 1] 7 rfl (by decide)))⟩⟩⟩⟩⟩⟩⟩⟩,
s.allocK fun a117 w104 s => ⟨s.still 5 0 rfl rfl, ⟨s.still 5 1 rfl rfl, s.allocK fun a118 w105 s => ⟨s.still 6 0 rfl rfl, ⟨s.still 6 1 rfl rfl, (s.lit (ty := .int .i64) 0 rfl [] 0 rfl rfl).app 0 rfl (Sp.rf2_ s (j + 7) hj).2 b3 fun s119 w106 s => ⟨s.still 6 0 rfl rfl, s.app 0 rfl ((s.lit (ty := .int .i64) 1 rfl [len] 1 rfl rfl).view 1 rfl) b4 fun s120 w107 s => ⟨s.still 6 0 rfl rfl, s.st0 4 rfl rfl rfl fun w108 s => ⟨s.still 6 0 rfl rfl, s.ld0 (ty := yevergreenref12_Store) (x := (s107, s120)) 4 rfl rfl (h _ _ _ (s.pick [3, 0] 7 rfl (by decide)))⟩⟩⟩⟩⟩⟩⟩⟩⟩⟩,
⟨s.allocK fun a122 w109 s => ⟨s.still 5 0 rfl rfl, ⟨s.still 5 1 rfl rfl, ⟨s.app 2 rfl ((s.lit (ty := yapi_Rule) 1 rfl [e.1] 1 (by simp [flat]) rfl).view 1 rfl) b2 fun s123 w110 s => ⟨s.still 5 0 rfl rfl, ⟨s.still 5 1 rfl rfl, ⟨(s.lit (ty := .int .i64) 0 rfl [] 0 rfl rfl).app 0 rfl (Sp.rf2_ s (j + 6) hj).2 b3 fun s124 w111 s => ⟨s.still 5 0 rfl rfl, s.allocK fun a125 w112 s => ⟨s.still 6 0 rfl rfl, s.app 1 rfl ((s.lit (ty := .int .i64) 0 rfl [len] 1 rfl rfl).view 0 rfl) b4 fun s126 w113 s => ⟨s.still 6 0 rfl rfl, s.st0 4 rfl rfl rfl fun w114 s => ⟨s.still 6 0 rfl rfl, s.ld0 (ty := yevergreenref12_Store) (x := (s123, s126)) 4 rfl rfl (h _ _ _ (s.pick [3, 1] 7 rfl (by decide)))⟩⟩⟩⟩,
s.allocK fun a128 w115 s => ⟨s.still 6 0 rfl rfl, ⟨s.still 6 1 rfl rfl, (s.lit (ty := .int .i64) 1 rfl [] 0 rfl rfl).app 1 rfl (Sp.rf2_ s (j + 7) hj).2 b3 fun s129 w116 s => ⟨s.still 6 0 rfl rfl, s.app 1 rfl ((s.lit (ty := .int .i64) 0 rfl [len] 1 rfl rfl).view 0 rfl) b4 fun s130 w117 s => ⟨s.still 6 0 rfl rfl, s.st0 4 rfl rfl rfl fun w118 s => ⟨s.still 6 0 rfl rfl, s.ld0 (ty := yevergreenref12_Store) (x := (s123, s130)) 4 rfl rfl (h _ _ _ (s.pick [3, 1] 7 rfl (by decide)))⟩⟩⟩⟩⟩⟩⟩⟩,
s.allocK fun a132 w119 s => ⟨s.still 6 0 rfl rfl, ⟨s.still 6 1 rfl rfl, s.app 3 rfl ((s.lit (ty := yapi_Rule) 2 rfl [e.1] 1 (by simp [flat]) rfl).view 2 rfl) b2 fun s133 w120 s => ⟨s.still 6 0 rfl rfl, ⟨s.still 6 1 rfl rfl, (s.lit (ty := .int .i64) 1 rfl [] 0 rfl rfl).app 1 rfl (Sp.rf2_ s (j + 7) hj).2 b3 fun s134 w121 s => ⟨s.still 6 0 rfl rfl, s.app 1 rfl ((s.lit (ty := .int .i64) 0 rfl [len] 1 rfl rfl).view 0 rfl) b4 fun s135 w122 s => ⟨s.still 6 0 rfl rfl, s.st0 4 rfl rfl rfl fun w123 s => ⟨s.still 6 0 rfl rfl, s.ld0 (ty := yevergreenref12_Store) (x := (s133, s135)) 4 rfl rfl (h _ _ _ (s.pick [3, 1] 7 rfl (by decide)))⟩⟩⟩⟩⟩⟩⟩⟩⟩⟩,
s.allocK fun a137 w124 s => ⟨s.still 5 0 rfl rfl, ⟨s.still 5 1 rfl rfl, ⟨s.app 2 rfl ((s.lit (ty := yapi_Rule) 1 rfl [e.1] 1 (by simp [flat]) rfl).view 1 rfl) b2 fun s138 w125 s => ⟨s.still 5 0 rfl rfl, ⟨s.still 5 1 rfl rfl, s.allocK fun a139 w126 s => ⟨s.still 6 0 rfl rfl, ⟨s.still 6 1 rfl rfl, (s.lit (ty := .int .i64) 0 rfl [] 0 rfl rfl).app 0 rfl (Sp.rf2_ s (j + 7) hj).2 b3 fun s140 w127 s => ⟨s.still 6 0 rfl rfl, s.app 0 rfl ((s.lit (ty := .int .i64) 1 rfl [len] 1 rfl rfl).view 1 rfl) b4 fun s141 w128 s => ⟨s.still 6 0 rfl rfl, s.st0 4 rfl rfl rfl fun w129 s => ⟨s.still 6 0 rfl rfl, s.ld0 (ty := yevergreenref12_Store) (x := (s138, s141)) 4 rfl rfl (h _ _ _ (s.pick [3, 0] 7 rfl (by decide)))⟩⟩⟩⟩⟩⟩⟩,
s.allocK fun a143 w130 s => ⟨s.still 6 0 rfl rfl, ⟨s.still 6 1 rfl rfl, s.app 3 rfl ((s.lit (ty := yapi_Rule) 2 rfl [e.1] 1 (by simp [flat]) rfl).view 2 rfl) b2 fun s144 w131 s => ⟨s.still 6 0 rfl rfl, ⟨s.still 6 1 rfl rfl, (s.lit (ty := .int .i64) 0 rfl [] 0 rfl rfl).app 0 rfl (Sp.rf2_ s (j + 7) hj).2 b3 fun s145 w132 s => ⟨s.still 6 0 rfl rfl, s.app 0 rfl ((s.lit (ty := .int .i64) 1 rfl [len] 1 rfl rfl).view 1 rfl) b4 fun s146 w133 s => ⟨s.still 6 0 rfl rfl, s.st0 4 rfl rfl rfl fun w134 s => ⟨s.still 6 0 rfl rfl, s.ld0 (ty := yevergreenref12_Store) (x := (s144, s146)) 4 rfl rfl (h _ _ _ (s.pick [3, 0] 7 rfl (by decide)))⟩⟩⟩⟩⟩⟩⟩⟩⟩⟩⟩⟩⟩⟩,
⟨s.allocK fun a148 w135 s => ⟨s.still 5 0 rfl rfl, ⟨s.still 5 1 rfl rfl, ⟨s.still 5 0 rfl rfl, ⟨(s.lit (ty := yapi_Rule) 2 rfl [] 0 rfl rfl).app 2 rfl (Sp.rf2_ s (j + 6) hj).1 b1 fun s149 w136 s => ⟨s.still 5 0 rfl rfl, ⟨s.still 5 1 rfl rfl, ⟨s.app 2 rfl ((s.lit (ty := yapi_Rule) 1 rfl [e.1] 1 (by simp [flat]) rfl).view 1 rfl) b2 fun s150 w137 s => ⟨s.still 5 0 rfl rfl, ⟨s.still 5 1 rfl rfl, ⟨(s.lit (ty := .int .i64) 0 rfl [] 0 rfl rfl).app 0 rfl (Sp.rf2_ s (j + 6) hj).2 b3 fun s151 w138 s => ⟨s.still 5 0 rfl rfl, s.allocK fun a152 w139 s => ⟨s.still 6 0 rfl rfl, s.app 1 rfl ((s.lit (ty := .int .i64) 0 rfl [len] 1 rfl rfl).view 0 rfl) b4 fun s153 w140 s => ⟨s.still 6 0 rfl rfl, s.st0 4 rfl rfl rfl fun w141 s => ⟨s.still 6 0 rfl rfl, s.ld0 (ty := yevergreenref12_Store) (x := (s150, s153)) 4 rfl rfl (h _ _ _ (s.pick [3, 1] 7 rfl (by decide)))⟩⟩⟩⟩,
s.allocK fun a155 w142 s => ⟨s.still 6 0 rfl rfl, ⟨s.still 6 1 rfl rfl, (s.lit (ty := .int .i64) 1 rfl [] 0 rfl rfl).app 1 rfl (Sp.rf2_ s (j + 7) hj).2 b3 fun s156 w143 s => ⟨s.still 6 0 rfl rfl, s.app 1 rfl ((s.lit (ty := .int .i64) 0 rfl [len] 1 rfl rfl).view 0 rfl) b4 fun s157 w144 s => ⟨s.still 6 0 rfl rfl, s.st0 4 rfl rfl rfl fun w145 s => ⟨s.still 6 0 rfl rfl, s.ld0 (ty := yevergreenref12_Store) (x := (s150, s157)) 4 rfl rfl (h _ _ _ (s.pick [3, 1] 7 rfl (by decide)))⟩⟩⟩⟩⟩⟩⟩⟩,
s.allocK fun a159 w146 s => ⟨s.still 6 0 rfl rfl, ⟨s.still 6 1 rfl rfl, s.app 3 rfl ((s.lit (ty := yapi_Rule) 2 rfl [e.1] 1 (by simp [flat]) rfl).view 2 rfl) b2 fun s160 w147 s => ⟨s.still 6 0 rfl rfl, ⟨s.still 6 1 rfl rfl, (s.lit (ty := .int .i64) 1 rfl [] 0 rfl rfl).app 1 rfl (Sp.rf2_ s (j + 7) hj).2 b3 fun s161 w148 s => ⟨s.still 6 0 rfl rfl, s.app 1 rfl ((s.lit (ty := .int .i64) 0 rfl [len] 1 rfl rfl).view 0 rfl) b4 fun s162 w149 s => ⟨s.still 6 0 rfl rfl, s.st0 4 rfl rfl rfl fun w150 s => ⟨s.still 6 0 rfl rfl, s.ld0 (ty := yevergreenref12_Store) (x := (s160, s162)) 4 rfl rfl (h _ _ _ (s.pick [3, 1] 7 rfl (by decide)))⟩⟩⟩⟩⟩⟩⟩⟩⟩⟩,
s.allocK fun a164 w151 s => ⟨s.still 6 0 rfl rfl, ⟨s.still 6 1 rfl rfl, ⟨s.still 6 0 rfl rfl, (s.lit (ty := yapi_Rule) 3 rfl [] 0 rfl rfl).app 3 rfl (Sp.rf2_ s (j + 7) hj).1 b1 fun s165 w152 s => ⟨s.still 6 0 rfl rfl, ⟨s.still 6 1 rfl rfl, s.app 3 rfl ((s.lit (ty := yapi_Rule) 2 rfl [e.1] 1 (by simp [flat]) rfl).view 2 rfl) b2 fun s166 w153 s => ⟨s.still 6 0 rfl rfl, ⟨s.still 6 1 rfl rfl, (s.lit (ty := .int .i64) 1 rfl [] 0 rfl rfl).app 1 rfl (Sp.rf2_ s (j + 7) hj).2 b3 fun s167 w154 s => ⟨s.still 6 0 rfl rfl, s.app 1 rfl ((s.lit (ty := .int .i64) 0 rfl [len] 1 rfl rfl).view 0 rfl) b4 fun s168 w155 s => ⟨s.still 6 0 rfl rfl, s.st0 4 rfl rfl rfl fun w156 s => ⟨s.still 6 0 rfl rfl, s.ld0 (ty := yevergreenref12_Store) (x := (s166, s168)) 4 rfl rfl (h _ _ _ (s.pick [3, 1] 7 rfl (by decide)))⟩⟩⟩⟩⟩⟩⟩⟩⟩⟩⟩⟩⟩⟩,
s.allocK fun a170 w157 s => ⟨s.still 5 0 rfl rfl, ⟨s.still 5 1 rfl rfl, ⟨s.still 5 0 rfl rfl, ⟨(s.lit (ty := yapi_Rule) 2 rfl [] 0 rfl rfl).app 2 rfl (Sp.rf2_ s (j + 6) hj).1 b1 fun s171 w158 s => ⟨s.still 5 0 rfl rfl, ⟨s.still 5 1 rfl rfl, ⟨s.app 2 rfl ((s.lit (ty := yapi_Rule) 1 rfl [e.1] 1 (by simp [flat]) rfl).view 1 rfl) b2 fun s172 w159 s => ⟨s.still 5 0 rfl rfl, ⟨s.still 5 1 rfl rfl, s.allocK fun a173 w160 s => ⟨s.still 6 0 rfl rfl, ⟨s.still 6 1 rfl rfl, (s.lit (ty := .int .i64) 0 rfl [] 0 rfl rfl).app 0 rfl (Sp.rf2_ s (j + 7) hj).2 b3 fun s174 w161 s => ⟨s.still 6 0 rfl rfl, s.app 0 rfl ((s.lit (ty := .int .i64) 1 rfl [len] 1 rfl rfl).view 1 rfl) b4 fun s175 w162 s => ⟨s.still 6 0 rfl rfl, s.st0 4 rfl rfl rfl fun w163 s => ⟨s.still 6 0 rfl rfl, s.ld0 (ty := yevergreenref12_Store) (x := (s172, s175)) 4 rfl rfl (h _ _ _ (s.pick [3, 0] 7 rfl (by decide)))⟩⟩⟩⟩⟩⟩⟩,
s.allocK fun a177 w164 s => ⟨s.still 6 0 rfl rfl, ⟨s.still 6 1 rfl rfl, s.app 3 rfl ((s.lit (ty := yapi_Rule) 2 rfl [e.1] 1 (by simp [flat]) rfl).view 2 rfl) b2 fun s178 w165 s => ⟨s.still 6 0 rfl rfl, ⟨s.still 6 1 rfl rfl, (s.lit (ty := .int .i64) 0 rfl [] 0 rfl rfl).app 0 rfl (Sp.rf2_ s (j + 7) hj).2 b3 fun s179 w166 s => ⟨s.still 6 0 rfl rfl, s.app 0 rfl ((s.lit (ty := .int .i64) 1 rfl [len] 1 rfl rfl).view 1 rfl) b4 fun s180 w167 s => ⟨s.still 6 0 rfl rfl, s.st0 4 rfl rfl rfl fun w168 s => ⟨s.still 6 0 rfl rfl, s.ld0 (ty := yevergreenref12_Store) (x := (s178, s180)) 4 rfl rfl (h _ _ _ (s.pick [3, 0] 7 rfl (by decide)))⟩⟩⟩⟩⟩⟩⟩⟩⟩⟩,
s.allocK fun a182 w169 s => ⟨s.still 6 0 rfl rfl, ⟨s.still 6 1 rfl rfl, ⟨s.still 6 0 rfl rfl, (s.lit (ty := yapi_Rule) 3 rfl [] 0 rfl rfl).app 3 rfl (Sp.rf2_ s (j + 7) hj).1 b1 fun s183 w170 s => ⟨s.still 6 0 rfl rfl, ⟨s.still 6 1 rfl rfl, s.app 3 rfl ((s.lit (ty := yapi_Rule) 2 rfl [e.1] 1 (by simp [flat]) rfl).view 2 rfl) b2 fun s184 w171 s => ⟨s.still 6 0 rfl rfl, ⟨s.still 6 1 rfl rfl, (s.lit (ty := .int .i64) 0 rfl [] 0 rfl rfl).app 0 rfl (Sp.rf2_ s (j + 7) hj).2 b3 fun s185 w172 s => ⟨s.still 6 0 rfl rfl, s.app 0 rfl ((s.lit (ty := .int .i64) 1 rfl [len] 1 rfl rfl).view 1 rfl) b4 fun s186 w173 s => ⟨s.still 6 0 rfl rfl, s.st0 4 rfl rfl rfl fun w174 s => ⟨s.still 6 0 rfl rfl, s.ld0 (ty := yevergreenref12_Store) (x := (s184, s186)) 4 rfl rfl (h _ _ _ (s.pick [3, 0] 7 rfl (by decide)))⟩⟩⟩⟩⟩⟩⟩⟩⟩⟩⟩⟩⟩⟩⟩⟩⟩⟩⟩,
⟨s.allocK fun a188 w175 s => ⟨s.still 4 0 rfl rfl, ⟨s.still 4 1 rfl rfl, ⟨s.at_ 3 rfl, ⟨s.still 4 0 rfl rfl, ⟨(s.lit (ty := yapi_Rule) 1 rfl [] 0 rfl rfl).app 1 rfl (Sp.rf2_ s (j + 5) hj).1 b1 fun s189 w176 s => ⟨s.still 4 0 rfl rfl, ⟨s.still 4 1 rfl rfl, ⟨s.at_ 3 rfl, ⟨s.allocK fun a190 w177 s => ⟨s.still 5 0 rfl rfl, ⟨s.still 5 1 rfl rfl, ⟨s.app 2 rfl ((s.lit (ty := yapi_Rule) 0 rfl [e.1] 1 (by simp [flat]) rfl).view 0 rfl) b2 fun s191 w178 s => ⟨s.still 5 0 rfl rfl, ⟨s.still 5 1 rfl rfl, ⟨(s.lit (ty := .int .i64) 1 rfl [] 0 rfl rfl).app 1 rfl (Sp.rf2_ s (j + 6) hj).2 b3 fun s192 w179 s => ⟨s.still 5 0 rfl rfl, s.allocK fun a193 w180 s => ⟨s.still 6 0 rfl rfl, s.app 2 rfl ((s.lit (ty := .int .i64) 0 rfl [len] 1 rfl rfl).view 0 rfl) b4 fun s194 w181 s => ⟨s.still 6 0 rfl rfl, s.st0 4 rfl rfl rfl fun w182 s => ⟨s.still 6 0 rfl rfl, s.ld0 (ty := yevergreenref12_Store) (x := (s191, s194)) 4 rfl rfl (h _ _ _ (s.pick [3, 2] 7 rfl (by decide)))⟩⟩⟩⟩,
s.allocK fun a196 w183 s => ⟨s.still 6 0 rfl rfl, ⟨s.still 6 1 rfl rfl, (s.lit (ty := .int .i64) 2 rfl [] 0 rfl rfl).app 2 rfl (Sp.rf2_ s (j + 7) hj).2 b3 fun s197 w184 s => ⟨s.still 6 0 rfl rfl, s.app 2 rfl ((s.lit (ty := .int .i64) 0 rfl [len] 1 rfl rfl).view 0 rfl) b4 fun s198 w185 s => ⟨s.still 6 0 rfl rfl, s.st0 4 rfl rfl rfl fun w186 s => ⟨s.still 6 0 rfl rfl, s.ld0 (ty := yevergreenref12_Store) (x := (s191, s198)) 4 rfl rfl (h _ _ _ (s.pick [3, 2] 7 rfl (by decide)))⟩⟩⟩⟩⟩⟩⟩⟩,
s.allocK fun a200 w187 s => ⟨s.still 6 0 rfl rfl, ⟨s.still 6 1 rfl rfl, s.app 3 rfl ((s.lit (ty := yapi_Rule) 1 rfl [e.1] 1 (by simp [flat]) rfl).view 1 rfl) b2 fun s201 w188 s => ⟨s.still 6 0 rfl rfl, ⟨s.still 6 1 rfl rfl, (s.lit (ty := .int .i64) 2 rfl [] 0 rfl rfl).app 2 rfl (Sp.rf2_ s (j + 7) hj).2 b3 fun s202 w189 s => ⟨s.still 6 0 rfl rfl, s.app 2 rfl ((s.lit (ty := .int .i64) 0 rfl [len] 1 rfl rfl).view 0 rfl) b4 fun s203 w190 s => ⟨s.still 6 0 rfl rfl, s.st0 4 rfl rfl rfl fun w191 s => ⟨s.still 6 0 rfl rfl, s.ld0 (ty := yevergreenref12_Store) (x := (s201, s203)) 4 rfl rfl (h _ _ _ (s.pick [3, 2] 7 rfl (by decide)))⟩⟩⟩⟩⟩⟩⟩⟩⟩⟩,
s.allocK fun a205 w192 s => ⟨s.still 5 0 rfl rfl, ⟨s.still 5 1 rfl rfl, ⟨s.at_ 4 rfl, s.allocK fun a206 w193 s => ⟨s.still 6 0 rfl rfl, ⟨s.still 6 1 rfl rfl, s.app 3 rfl ((s.lit (ty := yapi_Rule) 0 rfl [e.1] 1 (by simp [flat]) rfl).view 0 rfl) b2 fun s207 w194 s => ⟨s.still 6 0 rfl rfl, ⟨s.still 6 1 rfl rfl, (s.lit (ty := .int .i64) 2 rfl [] 0 rfl rfl).app 2 rfl (Sp.rf2_ s (j + 7) hj).2 b3 fun s208 w195 s => ⟨s.still 6 0 rfl rfl, s.app 2 rfl ((s.lit (ty := .int .i64) 1 rfl [len] 1 rfl rfl).view 1 rfl) b4 fun s209 w196 s => ⟨s.still 6 0 rfl rfl, s.st0 4 rfl rfl rfl fun w197 s => ⟨s.still 6 0 rfl rfl, s.ld0 (ty := yevergreenref12_Store) (x := (s207, s209)) 4 rfl rfl (h _ _ _ (s.pick [3, 2] 7 rfl (by decide)))⟩⟩⟩⟩⟩⟩⟩⟩⟩⟩⟩⟩⟩⟩,
⟨s.allocK fun a211 w198 s => ⟨s.still 5 0 rfl rfl, ⟨s.still 5 1 rfl rfl, ⟨s.still 5 0 rfl rfl, ⟨(s.lit (ty := yapi_Rule) 2 rfl [] 0 rfl rfl).app 2 rfl (Sp.rf2_ s (j + 6) hj).1 b1 fun s212 w199 s => ⟨s.still 5 0 rfl rfl, ⟨s.still 5 1 rfl rfl, ⟨s.app 2 rfl ((s.lit (ty := yapi_Rule) 0 rfl [e.1] 1 (by simp [flat]) rfl).view 0 rfl) b2 fun s213 w200 s => ⟨s.still 5 0 rfl rfl, ⟨s.still 5 1 rfl rfl, ⟨(s.lit (ty := .int .i64) 1 rfl [] 0 rfl rfl).app 1 rfl (Sp.rf2_ s (j + 6) hj).2 b3 fun s214 w201 s => ⟨s.still 5 0 rfl rfl, s.allocK fun a215 w202 s => ⟨s.still 6 0 rfl rfl, s.app 2 rfl ((s.lit (ty := .int .i64) 0 rfl [len] 1 rfl rfl).view 0 rfl) b4 fun s216 w203 s => ⟨s.still 6 0 rfl rfl, s.st0 4 rfl rfl rfl fun w204 s => ⟨s.still 6 0 rfl rfl, s.ld0 (ty := yevergreenref12_Store) (x := (s213, s216)) 4 rfl rfl (h _ _ _ (s.pick [3, 2] 7 rfl (by decide)))⟩⟩⟩⟩,
s.allocK fun a218 w205 s => ⟨s.still 6 0 rfl rfl, ⟨s.still 6 1 rfl rfl, (s.lit (ty := .int .i64) 2 rfl [] 0 rfl rfl).app 2 rfl (Sp.rf2_ s (j + 7) hj).2 b3 fun s219 w206 s => ⟨s.still 6 0 rfl rfl, s.app 2 rfl ((s.lit (ty := .int .i64) 0 rfl [len] 1 rfl rfl).view 0 rfl) b4 fun s220 w207 s => ⟨s.still 6 0 rfl rfl, s.st0 4 rfl rfl rfl fun w208 s => ⟨s.still 6 0 rfl rfl, s.ld0 (ty := yevergreenref12_Store) (x := (s213, s220)) 4 rfl rfl (h _ _ _ (s.pick [3, 2] 7 rfl (by decide)))⟩⟩⟩⟩⟩⟩⟩⟩,
s.allocK fun a222 w209 s => ⟨s.still 6 0 rfl rfl, ⟨s.still 6 1 rfl rfl, s.app 3 rfl ((s.lit (ty := yapi_Rule) 1 rfl [e.1] 1 (by simp [flat]) rfl).view 1 rfl) b2 fun s223 w210 s => ⟨s.still 6 0 rfl rfl, ⟨s.still 6 1 rfl rfl, (s.lit (ty := .int .i64) 2 rfl [] 0 rfl rfl).app 2 rfl (Sp.rf2_ s (j + 7) hj).2 b3 fun s224 w211 s => ⟨s.still 6 0 rfl rfl, s.app 2 rfl ((s.lit (ty := .int .i64) 0 rfl [len] 1 rfl rfl).view 0 rfl) b4 fun s225 w212 s => ⟨s.still 6 0 rfl rfl, s.st0 4 rfl rfl rfl fun w213 s => ⟨s.still 6 0 rfl rfl, s.ld0 (ty := yevergreenref12_Store) (x := (s223, s225)) 4 rfl rfl (h _ _ _ (s.pick [3, 2] 7 rfl (by decide)))⟩⟩⟩⟩⟩⟩⟩⟩⟩⟩,
s.allocK fun a227 w214 s => ⟨s.still 6 0 rfl rfl, ⟨s.still 6 1 rfl rfl, ⟨s.still 6 0 rfl rfl, (s.lit (ty := yapi_Rule) 3 rfl [] 0 rfl rfl).app 3 rfl (Sp.rf2_ s (j + 7) hj).1 b1 fun s228 w215 s => ⟨s.still 6 0 rfl rfl, ⟨s.still 6 1 rfl rfl, s.app 3 rfl ((s.lit (ty := yapi_Rule) 1 rfl [e.1] 1 (by simp [flat]) rfl).view 1 rfl) b2 fun s229 w216 s => ⟨s.still 6 0 rfl rfl, ⟨s.still 6 1 rfl rfl, (s.lit (ty := .int .i64) 2 rfl [] 0 rfl rfl).app 2 rfl (Sp.rf2_ s (j + 7) hj).2 b3 fun s230 w217 s => ⟨s.still 6 0 rfl rfl, s.app 2 rfl ((s.lit (ty := .int .i64) 0 rfl [len] 1 rfl rfl).view 0 rfl) b4 fun s231 w218 s => ⟨s.still 6 0 rfl rfl, s.st0 4 rfl rfl rfl fun w219 s => ⟨s.still 6 0 rfl rfl, s.ld0 (ty := yevergreenref12_Store) (x := (s229, s231)) 4 rfl rfl (h _ _ _ (s.pick [3, 2] 7 rfl (by decide)))⟩⟩⟩⟩⟩⟩⟩⟩⟩⟩⟩⟩⟩⟩,
s.allocK fun a233 w220 s => ⟨s.still 5 0 rfl rfl, ⟨s.still 5 1 rfl rfl, ⟨s.at_ 4 rfl, ⟨s.still 5 0 rfl rfl, ⟨(s.lit (ty := yapi_Rule) 2 rfl [] 0 rfl rfl).app 2 rfl (Sp.rf2_ s (j + 6) hj).1 b1 fun s234 w221 s => ⟨s.still 5 0 rfl rfl, ⟨s.still 5 1 rfl rfl, ⟨s.at_ 4 rfl, s.allocK fun a235 w222 s => ⟨s.still 6 0 rfl rfl, ⟨s.still 6 1 rfl rfl, s.app 3 rfl ((s.lit (ty := yapi_Rule) 0 rfl [e.1] 1 (by simp [flat]) rfl).view 0 rfl) b2 fun s236 w223 s => ⟨s.still 6 0 rfl rfl, ⟨s.still 6 1 rfl rfl, (s.lit (ty := .int .i64) 2 rfl [] 0 rfl rfl).app 2 rfl (Sp.rf2_ s (j + 7) hj).2 b3 fun s237 w224 s => ⟨s.still 6 0 rfl rfl, s.app 2 rfl ((s.lit (ty := .int .i64) 1 rfl [len] 1 rfl rfl).view 1 rfl) b4 fun s238 w225 s => ⟨s.still 6 0 rfl rfl, s.st0 4 rfl rfl rfl fun w226 s => ⟨s.still 6 0 rfl rfl, s.ld0 (ty := yevergreenref12_Store) (x := (s236, s238)) 4 rfl rfl (h _ _ _ (s.pick [3, 2] 7 rfl (by decide)))⟩⟩⟩⟩⟩⟩⟩⟩⟩⟩,
s.allocK fun a240 w227 s => ⟨s.still 6 0 rfl rfl, ⟨s.still 6 1 rfl rfl, ⟨s.still 6 0 rfl rfl, (s.lit (ty := yapi_Rule) 3 rfl [] 0 rfl rfl).app 3 rfl (Sp.rf2_ s (j + 7) hj).1 b1 fun s241 w228 s => ⟨s.still 6 0 rfl rfl, ⟨s.still 6 1 rfl rfl, s.app 3 rfl ((s.lit (ty := yapi_Rule) 0 rfl [e.1] 1 (by simp [flat]) rfl).view 0 rfl) b2 fun s242 w229 s => ⟨s.still 6 0 rfl rfl, ⟨s.still 6 1 rfl rfl, (s.lit (ty := .int .i64) 2 rfl [] 0 rfl rfl).app 2 rfl (Sp.rf2_ s (j + 7) hj).2 b3 fun s243 w230 s => ⟨s.still 6 0 rfl rfl, s.app 2 rfl ((s.lit (ty := .int .i64) 1 rfl [len] 1 rfl rfl).view 1 rfl) b4 fun s244 w231 s => ⟨s.still 6 0 rfl rfl, s.st0 4 rfl rfl rfl fun w232 s => ⟨s.still 6 0 rfl rfl, s.ld0 (ty := yevergreenref12_Store) (x := (s242, s244)) 4 rfl rfl (h _ _ _ (s.pick [3, 2] 7 rfl (by decide)))⟩⟩⟩⟩⟩⟩⟩⟩⟩⟩⟩⟩⟩⟩⟩⟩⟩⟩⟩⟩⟩,
s.allocK fun a246 w233 s => ⟨s.still 4 0 rfl rfl, ⟨s.still 4 1 rfl rfl, ⟨s.at_ 3 rfl, ⟨s.still 4 0 rfl rfl, ⟨(s.lit (ty := yapi_Rule) 1 rfl [] 0 rfl rfl).app 1 rfl (Sp.rf2_ s (j + 5) hj).1 b1 fun s247 w234 s => ⟨s.still 4 0 rfl rfl, ⟨s.still 4 1 rfl rfl, ⟨s.at_ 3 rfl, ⟨s.allocK fun a248 w235 s => ⟨s.still 5 0 rfl rfl, ⟨s.still 5 1 rfl rfl, ⟨s.app 2 rfl ((s.lit (ty := yapi_Rule) 0 rfl [e.1] 1 (by simp [flat]) rfl).view 0 rfl) b2 fun s249 w236 s => ⟨s.still 5 0 rfl rfl, ⟨s.still 5 1 rfl rfl, s.allocK fun a250 w237 s => ⟨s.still 6 0 rfl rfl, ⟨s.still 6 1 rfl rfl, (s.lit (ty := .int .i64) 0 rfl [] 0 rfl rfl).app 0 rfl (Sp.rf2_ s (j + 7) hj).2 b3 fun s251 w238 s => ⟨s.still 6 0 rfl rfl, s.app 0 rfl ((s.lit (ty := .int .i64) 2 rfl [len] 1 rfl rfl).view 2 rfl) b4 fun s252 w239 s => ⟨s.still 6 0 rfl rfl, s.st0 4 rfl rfl rfl fun w240 s => ⟨s.still 6 0 rfl rfl, s.ld0 (ty := yevergreenref12_Store) (x := (s249, s252)) 4 rfl rfl (h _ _ _ (s.pick [3, 0] 7 rfl (by decide)))⟩⟩⟩⟩⟩⟩⟩,
s.allocK fun a254 w241 s => ⟨s.still 6 0 rfl rfl, ⟨s.still 6 1 rfl rfl, s.app 3 rfl ((s.lit (ty := yapi_Rule) 1 rfl [e.1] 1 (by simp [flat]) rfl).view 1 rfl) b2 fun s255 w242 s => ⟨s.still 6 0 rfl rfl, ⟨s.still 6 1 rfl rfl, (s.lit (ty := .int .i64) 0 rfl [] 0 rfl rfl).app 0 rfl (Sp.rf2_ s (j + 7) hj).2 b3 fun s256 w243 s => ⟨s.still 6 0 rfl rfl, s.app 0 rfl ((s.lit (ty := .int .i64) 2 rfl [len] 1 rfl rfl).view 2 rfl) b4 fun s257 w244 s => ⟨s.still 6 0 rfl rfl, s.st0 4 rfl rfl rfl fun w245 s => ⟨s.still 6 0 rfl rfl, s.ld0 (ty := yevergreenref12_Store) (x := (s255, s257)) 4 rfl rfl (h _ _ _ (s.pick [3, 0] 7 rfl (by decide)))⟩⟩⟩⟩⟩⟩⟩⟩⟩⟩,
s.allocK fun a259 w246 s => ⟨s.still 5 0 rfl rfl, ⟨s.still 5 1 rfl rfl, ⟨s.at_ 4 rfl, s.allocK fun a260 w247 s => ⟨s.still 6 0 rfl rfl, ⟨s.still 6 1 rfl rfl, s.app 3 rfl ((s.lit (ty := yapi_Rule) 0 rfl [e.1] 1 (by simp [flat]) rfl).view 0 rfl) b2 fun s261 w248 s => ⟨s.still 6 0 rfl rfl, ⟨s.still 6 1 rfl rfl, (s.lit (ty := .int .i64) 1 rfl [] 0 rfl rfl).app 1 rfl (Sp.rf2_ s (j + 7) hj).2 b3 fun s262 w249 s => ⟨s.still 6 0 rfl rfl, s.app 1 rfl ((s.lit (ty := .int .i64) 2 rfl [len] 1 rfl rfl).view 2 rfl) b4 fun s263 w250 s => ⟨s.still 6 0 rfl rfl, s.st0 4 rfl rfl rfl fun w251 s => ⟨s.still 6 0 rfl rfl, s.ld0 (ty := yevergreenref12_Store) (x := (s261, s263)) 4 rfl rfl (h _ _ _ (s.pick [3, 1] 7 rfl (by decide)))⟩⟩⟩⟩⟩⟩⟩⟩⟩⟩⟩⟩⟩⟩,
⟨s.allocK fun a265 w252 s => ⟨s.still 5 0 rfl rfl, ⟨s.still 5 1 rfl rfl, ⟨s.still 5 0 rfl rfl, ⟨(s.lit (ty := yapi_Rule) 2 rfl [] 0 rfl rfl).app 2 rfl (Sp.rf2_ s (j + 6) hj).1 b1 fun s266 w253 s => ⟨s.still 5 0 rfl rfl, ⟨s.still 5 1 rfl rfl, ⟨s.app 2 rfl ((s.lit (ty := yapi_Rule) 0 rfl [e.1] 1 (by simp [flat]) rfl).view 0 rfl) b2 fun s267 w254 s => ⟨s.still 5 0 rfl rfl, ⟨s.still 5 1 rfl rfl, s.allocK fun a268 w255 s => ⟨s.still 6 0 rfl rfl, ⟨s.still 6 1 rfl rfl, (s.lit (ty := .int .i64) 0 rfl [] 0 rfl rfl).app 0 rfl (Sp.rf2_ s (j + 7) hj).2 b3 fun s269 w256 s => ⟨s.still 6 0 rfl rfl, s.app 0 rfl ((s.lit (ty := .int .i64) 2 rfl [len] 1 rfl rfl).view 2 rfl) b4 fun s270 w257 s => ⟨s.still 6 0 rfl rfl, s.st0 4 rfl rfl rfl fun w258 s => ⟨s.still 6 0 rfl rfl, s.ld0 (ty := yevergreenref12_Store) (x := (s267, s270)) 4 rfl rfl (h _ _ _ (s.pick [3, 0] 7 rfl (by decide)))⟩⟩⟩⟩⟩⟩⟩,
s.allocK fun a272 w259 s => ⟨s.still 6 0 rfl rfl, ⟨s.still 6 1 rfl rfl, s.app 3 rfl ((s.lit (ty := yapi_Rule) 1 rfl [e.1] 1 (by simp [flat]) rfl).view 1 rfl) b2 fun s273 w260 s => ⟨s.still 6 0 rfl rfl, ⟨s.still 6 1 rfl rfl, (s.lit (ty := .int .i64) 0 rfl [] 0 rfl rfl).app 0 rfl (Sp.rf2_ s (j + 7) hj).2 b3 fun s274 w261 s => ⟨s.still 6 0 rfl rfl, s.app 0 rfl ((s.lit (ty := .int .i64) 2 rfl [len] 1 rfl rfl).view 2 rfl) b4 fun s275 w262 s => ⟨s.still 6 0 rfl rfl, s.st0 4 rfl rfl rfl fun w263 s => ⟨s.still 6 0 rfl rfl, s.ld0 (ty := yevergreenref12_Store) (x := (s273, s275)) 4 rfl rfl (h _ _ _ (s.pick [3, 0] 7 rfl (by decide)))⟩⟩⟩⟩⟩⟩⟩⟩⟩⟩,
s.allocK fun a277 w264 s => ⟨s.still 6 0 rfl rfl, ⟨s.still 6 1 rfl rfl, ⟨s.still 6 0 rfl rfl, (s.lit (ty := yapi_Rule) 3 rfl [] 0 rfl rfl).app 3 rfl (Sp.rf2_ s (j + 7) hj).1 b1 fun s278 w265 s => ⟨s.still 6 0 rfl rfl, ⟨s.still 6 1 rfl rfl, s.app 3 rfl ((s.lit (ty := yapi_Rule) 1 rfl [e.1] 1 (by simp [flat]) rfl).view 1 rfl) b2 fun s279 w266 s => ⟨s.still 6 0 rfl rfl, ⟨s.still 6 1 rfl rfl, (s.lit (ty := .int .i64) 0 rfl [] 0 rfl rfl).app 0 rfl (Sp.rf2_ s (j + 7) hj).2 b3 fun s280 w267 s => ⟨s.still 6 0 rfl rfl, s.app 0 rfl ((s.lit (ty := .int .i64) 2 rfl [len] 1 rfl rfl).view 2 rfl) b4 fun s281 w268 s => ⟨s.still 6 0 rfl rfl, s.st0 4 rfl rfl rfl fun w269 s => ⟨s.still 6 0 rfl rfl, s.ld0 (ty := yevergreenref12_Store) (x := (s279, s281)) 4 rfl rfl (h _ _ _ (s.pick [3, 0] 7 rfl (by decide)))⟩⟩⟩⟩⟩⟩⟩⟩⟩⟩⟩⟩⟩⟩,
s.allocK fun a283 w270 s => ⟨s.still 5 0 rfl rfl, ⟨s.still 5 1 rfl rfl, ⟨s.at_ 4 rfl, ⟨s.still 5 0 rfl rfl, ⟨(s.lit (ty := yapi_Rule) 2 rfl [] 0 rfl rfl).app 2 rfl (Sp.rf2_ s (j + 6) hj).1 b1 fun s284 w271 s => ⟨s.still 5 0 rfl rfl, ⟨s.still 5 1 rfl rfl, ⟨s.at_ 4 rfl, s.allocK fun a285 w272 s => ⟨s.still 6 0 rfl rfl, ⟨s.still 6 1 rfl rfl, s.app 3 rfl ((s.lit (ty := yapi_Rule) 0 rfl [e.1] 1 (by simp [flat]) rfl).view 0 rfl) b2 fun s286 w273 s => ⟨s.still 6 0 rfl rfl, ⟨s.still 6 1 rfl rfl, (s.lit (ty := .int .i64) 1 rfl [] 0 rfl rfl).app 1 rfl (Sp.rf2_ s (j + 7) hj).2 b3 fun s287 w274 s => ⟨s.still 6 0 rfl rfl, s.app 1 rfl ((s.lit (ty := .int .i64) 2 rfl [len] 1 rfl rfl).view 2 rfl) b4 fun s288 w275 s => ⟨s.still 6 0 rfl rfl, s.st0 4 rfl rfl rfl fun w276 s => ⟨s.still 6 0 rfl rfl, s.ld0 (ty := yevergreenref12_Store) (x := (s286, s288)) 4 rfl rfl (h _ _ _ (s.pick [3, 1] 7 rfl (by decide)))⟩⟩⟩⟩⟩⟩⟩⟩⟩⟩,
s.allocK fun a290 w277 s => ⟨s.still 6 0 rfl rfl, ⟨s.still 6 1 rfl rfl, ⟨s.still 6 0 rfl rfl, (s.lit (ty := yapi_Rule) 3 rfl [] 0 rfl rfl).app 3 rfl (Sp.rf2_ s (j + 7) hj).1 b1 fun s291 w278 s => ⟨s.still 6 0 rfl rfl, ⟨s.still 6 1 rfl rfl, s.app 3 rfl ((s.lit (ty := yapi_Rule) 0 rfl [e.1] 1 (by simp [flat]) rfl).view 0 rfl) b2 fun s292 w279 s => ⟨s.still 6 0 rfl rfl, ⟨s.still 6 1 rfl rfl, (s.lit (ty := .int .i64) 1 rfl [] 0 rfl rfl).app 1 rfl (Sp.rf2_ s (j + 7) hj).2 b3 fun s293 w280 s => ⟨s.still 6 0 rfl rfl, s.app 1 rfl ((s.lit (ty := .int .i64) 2 rfl [len] 1 rfl rfl).view 2 rfl) b4 fun s294 w281 s => ⟨s.still 6 0 rfl rfl, s.st0 4 rfl rfl rfl fun w282 s => ⟨s.still 6 0 rfl rfl, s.ld0 (ty := yevergreenref12_Store) (x := (s292, s294)) 4 rfl rfl (h _ _ _ (s.pick [3, 1] 7 rfl (by decide)))⟩⟩⟩⟩⟩⟩⟩⟩⟩⟩⟩⟩⟩⟩⟩⟩⟩⟩⟩⟩⟩⟩⟩⟩⟩⟩⟩⟩,
⟨s.allocK fun a296 w283 s => ⟨s.still 3 0 rfl rfl, ⟨s.still 3 1 rfl rfl, ⟨s.still 3 0 rfl rfl, ⟨s.allocK fun a297 w284 s => ⟨s.still 4 0 rfl rfl, ⟨s.still 4 1 rfl rfl, ⟨s.still 4 0 rfl rfl, ⟨(s.lit (ty := yapi_Rule) 0 rfl [] 0 rfl rfl).app 0 rfl (Sp.rf2_ s (j + 5) hj).1 b1 fun s298 w285 s => ⟨s.still 4 0 rfl rfl, ⟨s.still 4 1 rfl rfl, ⟨s.app 0 rfl ((s.lit (ty := yapi_Rule) 1 rfl [e.1] 1 (by simp [flat]) rfl).view 1 rfl) b2 fun s299 w286 s => ⟨s.still 4 0 rfl rfl, ⟨s.still 4 1 rfl rfl, ⟨s.allocK fun a300 w287 s => ⟨s.still 5 0 rfl rfl, ⟨s.still 5 1 rfl rfl, ⟨(s.lit (ty := .int .i64) 0 rfl [] 0 rfl rfl).app 0 rfl (Sp.rf2_ s (j + 6) hj).2 b3 fun s301 w288 s => ⟨s.still 5 0 rfl rfl, s.allocK fun a302 w289 s => ⟨s.still 6 0 rfl rfl, s.app 1 rfl ((s.lit (ty := .int .i64) 0 rfl [len] 1 rfl rfl).view 0 rfl) b4 fun s303 w290 s => ⟨s.still 6 0 rfl rfl, s.st0 4 rfl rfl rfl fun w291 s => ⟨s.still 6 0 rfl rfl, s.ld0 (ty := yevergreenref12_Store) (x := (s299, s303)) 4 rfl rfl (h _ _ _ (s.pick [2, 1] 7 rfl (by decide)))⟩⟩⟩⟩,
s.allocK fun a305 w292 s => ⟨s.still 6 0 rfl rfl, ⟨s.still 6 1 rfl rfl, (s.lit (ty := .int .i64) 1 rfl [] 0 rfl rfl).app 1 rfl (Sp.rf2_ s (j + 7) hj).2 b3 fun s306 w293 s => ⟨s.still 6 0 rfl rfl, s.app 1 rfl ((s.lit (ty := .int .i64) 0 rfl [len] 1 rfl rfl).view 0 rfl) b4 fun s307 w294 s => ⟨s.still 6 0 rfl rfl, s.st0 4 rfl rfl rfl fun w295 s => ⟨s.still 6 0 rfl rfl, s.ld0 (ty := yevergreenref12_Store) (x := (s299, s307)) 4 rfl rfl (h _ _ _ (s.pick [2, 1] 7 rfl (by decide)))⟩⟩⟩⟩⟩⟩⟩⟩,
s.allocK fun a309 w296 s => ⟨s.still 5 0 rfl rfl, ⟨s.still 5 1 rfl rfl, s.allocK fun a310 w297 s => ⟨s.still 6 0 rfl rfl, ⟨s.still 6 1 rfl rfl, (s.lit (ty := .int .i64) 0 rfl [] 0 rfl rfl).app 0 rfl (Sp.rf2_ s (j + 7) hj).2 b3 fun s311 w298 s => ⟨s.still 6 0 rfl rfl, s.app 0 rfl ((s.lit (ty := .int .i64) 1 rfl [len] 1 rfl rfl).view 1 rfl) b4 fun s312 w299 s => ⟨s.still 6 0 rfl rfl, s.st0 4 rfl rfl rfl fun w300 s => ⟨s.still 6 0 rfl rfl, s.ld0 (ty := yevergreenref12_Store) (x := (s299, s312)) 4 rfl rfl (h _ _ _ (s.pick [2, 0] 7 rfl (by decide)))⟩⟩⟩⟩⟩⟩⟩⟩⟩⟩,
⟨s.allocK fun a314 w301 s => ⟨s.still 5 0 rfl rfl, ⟨s.still 5 1 rfl rfl, ⟨s.app 1 rfl ((s.lit (ty := yapi_Rule) 2 rfl [e.1] 1 (by simp [flat]) rfl).view 2 rfl) b2 fun s315 w302 s => ⟨s.still 5 0 rfl rfl, ⟨s.still 5 1 rfl rfl, ⟨(s.lit (ty := .int .i64) 0 rfl [] 0 rfl rfl).app 0 rfl (Sp.rf2_ s (j + 6) hj).2 b3 fun s316 w303 s => ⟨s.still 5 0 rfl rfl, s.allocK fun a317 w304 s => ⟨s.still 6 0 rfl rfl, s.app 1 rfl ((s.lit (ty := .int .i64) 0 rfl [len] 1 rfl rfl).view 0 rfl) b4 fun s318 w305 s => ⟨s.still 6 0 rfl rfl, s.st0 4 rfl rfl rfl fun w306 s => ⟨s.still 6 0 rfl rfl, s.ld0 (ty := yevergreenref12_Store) (x := (s315, s318)) 4 rfl rfl (h _ _ _ (s.pick [2, 1] 7 rfl (by decide)))⟩⟩⟩⟩,
s.allocK fun a320 w307 s => ⟨s.still 6 0 rfl rfl, ⟨s.still 6 1 rfl rfl, (s.lit (ty := .int .i64) 1 rfl [] 0 rfl rfl).app 1 rfl (Sp.rf2_ s (j + 7) hj).2 b3 fun s321 w308 s => ⟨s.still 6 0 rfl rfl, s.app 1 rfl ((s.lit (ty := .int .i64) 0 rfl [len] 1 rfl rfl).view 0 rfl) b4 fun s322 w309 s => ⟨s.still 6 0 rfl rfl, s.st0 4 rfl rfl rfl fun w310 s => ⟨s.still 6 0 rfl rfl, s.ld0 (ty := yevergreenref12_Store) (x := (s315, s322)) 4 rfl rfl (h _ _ _ (s.pick [2, 1] 7 rfl (by decide)))⟩⟩⟩⟩⟩⟩⟩⟩,
s.allocK fun a324 w311 s => ⟨s.still 6 0 rfl rfl, ⟨s.still 6 1 rfl rfl, s.app 2 rfl ((s.lit (ty := yapi_Rule) 3 rfl [e.1] 1 (by simp [flat]) rfl).view 3 rfl) b2 fun s325 w312 s => ⟨s.still 6 0 rfl rfl, ⟨s.still 6 1 rfl rfl, (s.lit (ty := .int .i64) 1 rfl [] 0 rfl rfl).app 1 rfl (Sp.rf2_ s (j + 7) hj).2 b3 fun s326 w313 s => ⟨s.still 6 0 rfl rfl, s.app 1 rfl ((s.lit (ty := .int .i64) 0 rfl [len] 1 rfl rfl).view 0 rfl) b4 fun s327 w314 s => ⟨s.still 6 0 rfl rfl, s.st0 4 rfl rfl rfl fun w315 s => ⟨s.still 6 0 rfl rfl, s.ld0 (ty := yevergreenref12_Store) (x := (s325, s327)) 4 rfl rfl (h _ _ _ (s.pick [2, 1] 7 rfl (by decide)))⟩⟩⟩⟩⟩⟩⟩⟩⟩⟩,
s.allocK fun a329 w316 s => ⟨s.still 5 0 rfl rfl, ⟨s.still 5 1 rfl rfl, ⟨s.app 1 rfl ((s.lit (ty := yapi_Rule) 2 rfl [e.1] 1 (by simp [flat]) rfl).view 2 rfl) b2 fun s330 w317 s => ⟨s.still 5 0 rfl rfl, ⟨s.still 5 1 rfl rfl, s.allocK fun a331 w318 s => ⟨s.still 6 0 rfl rfl, ⟨s.still 6 1 rfl rfl, (s.lit (ty := .int .i64) 0 rfl [] 0 rfl rfl).app 0 rfl (Sp.rf2_ s (j + 7) hj).2 b3 fun s332 w319 s => ⟨s.still 6 0 rfl rfl, s.app 0 rfl ((s.lit (ty := .int .i64) 1 rfl [len] 1 rfl rfl).view 1 rfl) b4 fun s333 w320 s => ⟨s.still 6 0 rfl rfl, s.st0 4 rfl rfl rfl fun w321 s => ⟨s.still 6 0 rfl rfl, s.ld0 (ty := yevergreenref12_Store) (x := (s330, s333)) 4 rfl rfl (h _ _ _ (s.pick [2, 0] 7 rfl (by decide)))⟩⟩⟩⟩⟩⟩⟩,
s.allocK fun a335 w322 s => ⟨s.still 6 0 rfl rfl, ⟨s.still 6 1 rfl rfl, s.app 2 rfl ((s.lit (ty := yapi_Rule) 3 rfl [e.1] 1 (by simp [flat]) rfl).view 3 rfl) b2 fun s336 w323 s => ⟨s.still 6 0 rfl rfl, ⟨s.still 6 1 rfl rfl, (s.lit (ty := .int .i64) 0 rfl [] 0 rfl rfl).app 0 rfl (Sp.rf2_ s (j + 7) hj).2 b3 fun s337 w324 s => ⟨s.still 6 0 rfl rfl, s.app 0 rfl ((s.lit (ty := .int .i64) 1 rfl [len] 1 rfl rfl).view 1 rfl) b4 fun s338 w325 s => ⟨s.still 6 0 rfl rfl, s.st0 4 rfl rfl rfl fun w326 s => ⟨s.still 6 0 rfl rfl, s.ld0 (ty := yevergreenref12_Store) (x := (s336, s338)) 4 rfl rfl (h _ _ _ (s.pick [2, 0] 7 rfl (by decide)))⟩⟩⟩⟩⟩⟩⟩⟩⟩⟩⟩⟩⟩⟩,
⟨s.allocK fun a340 w327 s => ⟨s.still 5 0 rfl rfl, ⟨s.still 5 1 rfl rfl, ⟨s.still 5 0 rfl rfl, ⟨(s.lit (ty := yapi_Rule) 1 rfl [] 0 rfl rfl).app 1 rfl (Sp.rf2_ s (j + 6) hj).1 b1 fun s341 w328 s => ⟨s.still 5 0 rfl rfl, ⟨s.still 5 1 rfl rfl, ⟨s.app 1 rfl ((s.lit (ty := yapi_Rule) 2 rfl [e.1] 1 (by simp [flat]) rfl).view 2 rfl) b2 fun s342 w329 s => ⟨s.still 5 0 rfl rfl, ⟨s.still 5 1 rfl rfl, ⟨(s.lit (ty := .int .i64) 0 rfl [] 0 rfl rfl).app 0 rfl (Sp.rf2_ s (j + 6) hj).2 b3 fun s343 w330 s => ⟨s.still 5 0 rfl rfl, s.allocK fun a344 w331 s => ⟨s.still 6 0 rfl rfl, s.app 1 rfl ((s.lit (ty := .int .i64) 0 rfl [len] 1 rfl rfl).view 0 rfl) b4 fun s345 w332 s => ⟨s.still 6 0 rfl rfl, s.st0 4 rfl rfl rfl fun w333 s => ⟨s.still 6 0 rfl rfl, s.ld0 (ty := yevergreenref12_Store) (x := (s342, s345)) 4 rfl rfl (h _ _ _ (s.pick [2, 1] 7 rfl (by decide)))⟩⟩⟩⟩,
s.allocK fun a347 w334 s => ⟨s.still 6 0 rfl rfl, ⟨s.still 6 1 rfl rfl, (s.lit (ty := .int .i64) 1 rfl [] 0 rfl rfl).app 1 rfl (Sp.rf2_ s (j + 7) hj).2 b3 fun s348 w335 s => ⟨s.still 6 0 rfl rfl, s.app 1 rfl ((s.lit (ty := .int .i64) 0 rfl [len] 1 rfl rfl).view 0 rfl) b4 fun s349 w336 s => ⟨s.still 6 0 rfl rfl, s.st0 4 rfl rfl rfl fun w337 s => ⟨s.still 6 0 rfl rfl, s.ld0 (ty := yevergreenref12_Store) (x := (s342, s349)) 4 rfl rfl (h _ _ _ (s.pick [2, 1] 7 rfl (by decide)))⟩⟩⟩⟩⟩⟩⟩⟩,
s.allocK fun a351 w338 s => ⟨s.still 6 0 rfl rfl, ⟨s.still 6 1 rfl rfl, s.app 2 rfl ((s.lit (ty := yapi_Rule) 3 rfl [e.1] 1 (by simp [flat]) rfl).view 3 rfl) b2 fun s352 w339 s => ⟨s.still 6 0 rfl rfl, ⟨s.still 6 1 rfl rfl, (s.lit (ty := .int .i64) 1 rfl [] 0 rfl rfl).app 1 rfl (Sp.rf2_ s (j + 7) hj).2 b3 fun s353 w340 s => ⟨s.still 6 0 rfl rfl, s.app 1 rfl ((s.lit (ty := .int .i64) 0 rfl [len] 1 rfl rfl).view 0 rfl) b4 fun s354 w341 s => ⟨s.still 6 0 rfl rfl, s.st0 4 rfl rfl rfl fun w342 s => ⟨s.still 6 0 rfl rfl, s.ld0 (ty := yevergreenref12_Store) (x := (s352, s354)) 4 rfl rfl (h _ _ _ (s.pick [2, 1] 7 rfl (by decide)))⟩⟩⟩⟩⟩⟩⟩⟩⟩⟩,
s.allocK fun a356 w343 s => ⟨s.still 6 0 rfl rfl, ⟨s.still 6 1 rfl rfl, ⟨s.still 6 0 rfl rfl, (s.lit (ty := yapi_Rule) 2 rfl [] 0 rfl rfl).app 2 rfl (Sp.rf2_ s (j + 7) hj).1 b1 fun s357 w344 s => ⟨s.still 6 0 rfl rfl, ⟨s.still 6 1 rfl rfl, s.app 2 rfl ((s.lit (ty := yapi_Rule) 3 rfl [e.1] 1 (by simp [flat]) rfl).view 3 rfl) b2 fun s358 w345 s => ⟨s.still 6 0 rfl rfl, ⟨s.still 6 1 rfl rfl, (s.lit (ty := .int .i64) 1 rfl [] 0 rfl rfl).app 1 rfl (Sp.rf2_ s (j + 7) hj).2 b3 fun s359 w346 s => ⟨s.still 6 0 rfl rfl, s.app 1 rfl ((s.lit (ty := .int .i64) 0 rfl [len] 1 rfl rfl).view 0 rfl) b4 fun s360 w347 s => ⟨s.still 6 0 rfl rfl, s.st0 4 rfl rfl rfl fun w348 s => ⟨s.still 6 0 rfl rfl, s.ld0 (ty := yevergreenref12_Store) (x := (s358, s360)) 4 rfl rfl (h _ _ _ (s.pick [2, 1] 7 rfl (by decide)))⟩⟩⟩⟩⟩⟩⟩⟩⟩⟩⟩⟩⟩⟩,
s.allocK fun a362 w349 s => ⟨s.still 5 0 rfl rfl, ⟨s.still 5 1 rfl rfl, ⟨s.still 5 0 rfl rfl, ⟨(s.lit (ty := yapi_Rule) 1 rfl [] 0 rfl rfl).app 1 rfl (Sp.rf2_ s (j + 6) hj).1 b1 fun s363 w350 s => ⟨s.still 5 0 rfl rfl, ⟨s.still 5 1 rfl rfl, ⟨s.app 1 rfl ((s.lit (ty := yapi_Rule) 2 rfl [e.1] 1 (by simp [flat]) rfl).view 2 rfl) b2 fun s364 w351 s => ⟨s.still 5 0 rfl rfl, ⟨s.still 5 1 rfl rfl, s.allocK fun a365 w352 s => ⟨s.still 6 0 rfl rfl, ⟨s.still 6 1 rfl rfl, (s.lit (ty := .int .i64) 0 rfl [] 0 rfl rfl).app 0 rfl (Sp.rf2_ s (j + 7) hj).2 b3 fun s366 w353 s => ⟨s.still 6 0 rfl rfl, s.app 0 rfl ((s.lit (ty := .int .i64) 1 rfl [len] 1 rfl rfl).view 1 rfl) b4 fun s367 w354 s => ⟨s.still 6 0 rfl rfl, s.st0 4 rfl rfl rfl fun w355 s => ⟨s.still 6 0 rfl rfl, s.ld0 (ty := yevergreenref12_Store) (x := (s364, s367)) 4 rfl rfl (h _ _ _ (s.pick [2, 0] 7 rfl (by decide)))⟩⟩⟩⟩⟩⟩⟩,
s.allocK fun a369 w356 s => ⟨s.still 6 0 rfl rfl, ⟨s.still 6 1 rfl rfl, s.app 2 rfl ((s.lit (ty := yapi_Rule) 3 rfl [e.1] 1 (by simp [flat]) rfl).view 3 rfl) b2 fun s370 w357 s => ⟨s.still 6 0 rfl rfl, ⟨s.still 6 1 rfl rfl, (s.lit (ty := .int .i64) 0 rfl [] 0 rfl rfl).app 0 rfl (Sp.rf2_ s (j + 7) hj).2 b3 fun s371 w358 s => ⟨s.still 6 0 rfl rfl, s.app 0 rfl ((s.lit (ty := .int .i64) 1 rfl [len] 1 rfl rfl).view 1 rfl) b4 fun s372 w359 s => ⟨s.still 6 0 rfl rfl, s.st0 4 rfl rfl rfl fun w360 s => ⟨s.still 6 0 rfl rfl, s.ld0 (ty := yevergreenref12_Store) (x := (s370, s372)) 4 rfl rfl (h _ _ _ (s.pick [2, 0] 7 rfl (by decide)))⟩⟩⟩⟩⟩⟩⟩⟩⟩⟩,
s.allocK fun a374 w361 s => ⟨s.still 6 0 rfl rfl, ⟨s.still 6 1 rfl rfl, ⟨s.still 6 0 rfl rfl, (s.lit (ty := yapi_Rule) 2 rfl [] 0 rfl rfl).app 2 rfl (Sp.rf2_ s (j + 7) hj).1 b1 fun s375 w362 s => ⟨s.still 6 0 rfl rfl, ⟨s.still 6 1 rfl rfl, s.app 2 rfl ((s.lit (ty := yapi_Rule) 3 rfl [e.1] 1 (by simp [flat]) rfl).view 3 rfl) b2 fun s376 w363 s => ⟨s.still 6 0 rfl rfl, ⟨s.still 6 1 rfl rfl, (s.lit (ty := .int .i64) 0 rfl [] 0 rfl rfl).app 0 rfl (Sp.rf2_ s (j + 7) hj).2 b3 fun s377 w364 s => ⟨s.still 6 0 rfl rfl, s.app 0 rfl ((s.lit (ty := .int .i64) 1 rfl [len] 1 rfl rfl).view 1 rfl) b4 fun s378 w365 s => ⟨s.still 6 0 rfl rfl, s.st0 4 rfl rfl rfl fun w366 s => ⟨s.still 6 0 rfl rfl, s.ld0 (ty := yevergreenref12_Store) (x := (s376, s378)) 4 rfl rfl (h _ _ _ (s.pick [2, 0] 7 rfl (by decide)))⟩⟩⟩⟩⟩⟩⟩⟩⟩⟩⟩⟩⟩⟩⟩⟩⟩⟩⟩,
⟨s.allocK fun a380 w367 s => ⟨s.still 4 0 rfl rfl, ⟨s.still 4 1 rfl rfl, ⟨s.still 4 0 rfl rfl, ⟨s.allocK fun a381 w368 s => ⟨s.still 5 0 rfl rfl, ⟨s.still 5 1 rfl rfl, ⟨s.still 5 0 rfl rfl, ⟨(s.lit (ty := yapi_Rule) 0 rfl [] 0 rfl rfl).app 0 rfl (Sp.rf2_ s (j + 6) hj).1 b1 fun s382 w369 s => ⟨s.still 5 0 rfl rfl, ⟨s.still 5 1 rfl rfl, ⟨s.app 0 rfl ((s.lit (ty := yapi_Rule) 2 rfl [e.1] 1 (by simp [flat]) rfl).view 2 rfl) b2 fun s383 w370 s => ⟨s.still 5 0 rfl rfl, ⟨s.still 5 1 rfl rfl, ⟨(s.lit (ty := .int .i64) 1 rfl [] 0 rfl rfl).app 1 rfl (Sp.rf2_ s (j + 6) hj).2 b3 fun s384 w371 s => ⟨s.still 5 0 rfl rfl, s.allocK fun a385 w372 s => ⟨s.still 6 0 rfl rfl, s.app 2 rfl ((s.lit (ty := .int .i64) 0 rfl [len] 1 rfl rfl).view 0 rfl) b4 fun s386 w373 s => ⟨s.still 6 0 rfl rfl, s.st0 4 rfl rfl rfl fun w374 s => ⟨s.still 6 0 rfl rfl, s.ld0 (ty := yevergreenref12_Store) (x := (s383, s386)) 4 rfl rfl (h _ _ _ (s.pick [1, 2] 7 rfl (by decide)))⟩⟩⟩⟩,
s.allocK fun a388 w375 s => ⟨s.still 6 0 rfl rfl, ⟨s.still 6 1 rfl rfl, (s.lit (ty := .int .i64) 2 rfl [] 0 rfl rfl).app 2 rfl (Sp.rf2_ s (j + 7) hj).2 b3 fun s389 w376 s => ⟨s.still 6 0 rfl rfl, s.app 2 rfl ((s.lit (ty := .int .i64) 0 rfl [len] 1 rfl rfl).view 0 rfl) b4 fun s390 w377 s => ⟨s.still 6 0 rfl rfl, s.st0 4 rfl rfl rfl fun w378 s => ⟨s.still 6 0 rfl rfl, s.ld0 (ty := yevergreenref12_Store) (x := (s383, s390)) 4 rfl rfl (h _ _ _ (s.pick [1, 2] 7 rfl (by decide)))⟩⟩⟩⟩⟩⟩⟩⟩,
s.allocK fun a392 w379 s => ⟨s.still 6 0 rfl rfl, ⟨s.still 6 1 rfl rfl, s.app 1 rfl ((s.lit (ty := yapi_Rule) 3 rfl [e.1] 1 (by simp [flat]) rfl).view 3 rfl) b2 fun s393 w380 s => ⟨s.still 6 0 rfl rfl, ⟨s.still 6 1 rfl rfl, (s.lit (ty := .int .i64) 2 rfl [] 0 rfl rfl).app 2 rfl (Sp.rf2_ s (j + 7) hj).2 b3 fun s394 w381 s => ⟨s.still 6 0 rfl rfl, s.app 2 rfl ((s.lit (ty := .int .i64) 0 rfl [len] 1 rfl rfl).view 0 rfl) b4 fun s395 w382 s => ⟨s.still 6 0 rfl rfl, s.st0 4 rfl rfl rfl fun w383 s => ⟨s.still 6 0 rfl rfl, s.ld0 (ty := yevergreenref12_Store) (x := (s393, s395)) 4 rfl rfl (h _ _ _ (s.pick [1, 2] 7 rfl (by decide)))⟩⟩⟩⟩⟩⟩⟩⟩⟩⟩,
s.allocK fun a397 w384 s => ⟨s.still 6 0 rfl rfl, ⟨s.still 6 1 rfl rfl, ⟨s.still 6 0 rfl rfl, (s.lit (ty := yapi_Rule) 1 rfl [] 0 rfl rfl).app 1 rfl (Sp.rf2_ s (j + 7) hj).1 b1 fun s398 w385 s => ⟨s.still 6 0 rfl rfl, ⟨s.still 6 1 rfl rfl, s.app 1 rfl ((s.lit (ty := yapi_Rule) 3 rfl [e.1] 1 (by simp [flat]) rfl).view 3 rfl) b2 fun s399 w386 s => ⟨s.still 6 0 rfl rfl, ⟨s.still 6 1 rfl rfl, (s.lit (ty := .int .i64) 2 rfl [] 0 rfl rfl).app 2 rfl (Sp.rf2_ s (j + 7) hj).2 b3 fun s400 w387 s => ⟨s.still 6 0 rfl rfl, s.app 2 rfl ((s.lit (ty := .int .i64) 0 rfl [len] 1 rfl rfl).view 0 rfl) b4 fun s401 w388 s => ⟨s.still 6 0 rfl rfl, s.st0 4 rfl rfl rfl fun w389 s => ⟨s.still 6 0 rfl rfl, s.ld0 (ty := yevergreenref12_Store) (x := (s399, s401)) 4 rfl rfl (h _ _ _ (s.pick [1, 2] 7 rfl (by decide)))⟩⟩⟩⟩⟩⟩⟩⟩⟩⟩⟩⟩⟩⟩,
s.allocK fun a403 w390 s => ⟨s.still 5 0 rfl rfl, ⟨s.still 5 1 rfl rfl, ⟨s.still 5 0 rfl rfl, s.allocK fun a404 w391 s => ⟨s.still 6 0 rfl rfl, ⟨s.still 6 1 rfl rfl, ⟨s.still 6 0 rfl rfl, (s.lit (ty := yapi_Rule) 0 rfl [] 0 rfl rfl).app 0 rfl (Sp.rf2_ s (j + 7) hj).1 b1 fun s405 w392 s => ⟨s.still 6 0 rfl rfl, ⟨s.still 6 1 rfl rfl, s.app 0 rfl ((s.lit (ty := yapi_Rule) 3 rfl [e.1] 1 (by simp [flat]) rfl).view 3 rfl) b2 fun s406 w393 s => ⟨s.still 6 0 rfl rfl, ⟨s.still 6 1 rfl rfl, (s.lit (ty := .int .i64) 2 rfl [] 0 rfl rfl).app 2 rfl (Sp.rf2_ s (j + 7) hj).2 b3 fun s407 w394 s => ⟨s.still 6 0 rfl rfl, s.app 2 rfl ((s.lit (ty := .int .i64) 1 rfl [len] 1 rfl rfl).view 1 rfl) b4 fun s408 w395 s => ⟨s.still 6 0 rfl rfl, s.st0 4 rfl rfl rfl fun w396 s => ⟨s.still 6 0 rfl rfl, s.ld0 (ty := yevergreenref12_Store) (x := (s406, s408)) 4 rfl rfl (h _ _ _ (s.pick [0, 2] 7 rfl (by decide)))⟩⟩⟩⟩⟩⟩⟩⟩⟩⟩⟩⟩⟩⟩⟩⟩⟩,
s.allocK fun a410 w397 s => ⟨s.still 4 0 rfl rfl, ⟨s.still 4 1 rfl rfl, ⟨s.still 4 0 rfl rfl, ⟨s.allocK fun a411 w398 s => ⟨s.still 5 0 rfl rfl, ⟨s.still 5 1 rfl rfl, ⟨s.still 5 0 rfl rfl, ⟨(s.lit (ty := yapi_Rule) 0 rfl [] 0 rfl rfl).app 0 rfl (Sp.rf2_ s (j + 6) hj).1 b1 fun s412 w399 s => ⟨s.still 5 0 rfl rfl, ⟨s.still 5 1 rfl rfl, ⟨s.app 0 rfl ((s.lit (ty := yapi_Rule) 2 rfl [e.1] 1 (by simp [flat]) rfl).view 2 rfl) b2 fun s413 w400 s => ⟨s.still 5 0 rfl rfl, ⟨s.still 5 1 rfl rfl, s.allocK fun a414 w401 s => ⟨s.still 6 0 rfl rfl, ⟨s.still 6 1 rfl rfl, (s.lit (ty := .int .i64) 0 rfl [] 0 rfl rfl).app 0 rfl (Sp.rf2_ s (j + 7) hj).2 b3 fun s415 w402 s => ⟨s.still 6 0 rfl rfl, s.app 0 rfl ((s.lit (ty := .int .i64) 2 rfl [len] 1 rfl rfl).view 2 rfl) b4 fun s416 w403 s => ⟨s.still 6 0 rfl rfl, s.st0 4 rfl rfl rfl fun w404 s => ⟨s.still 6 0 rfl rfl, s.ld0 (ty := yevergreenref12_Store) (x := (s413, s416)) 4 rfl rfl (h _ _ _ (s.pick [1, 0] 7 rfl (by decide)))⟩⟩⟩⟩⟩⟩⟩,
s.allocK fun a418 w405 s => ⟨s.still 6 0 rfl rfl, ⟨s.still 6 1 rfl rfl, s.app 1 rfl ((s.lit (ty := yapi_Rule) 3 rfl [e.1] 1 (by simp [flat]) rfl).view 3 rfl) b2 fun s419 w406 s => ⟨s.still 6 0 rfl rfl, ⟨s.still 6 1 rfl rfl, (s.lit (ty := .int .i64) 0 rfl [] 0 rfl rfl).app 0 rfl (Sp.rf2_ s (j + 7) hj).2 b3 fun s420 w407 s => ⟨s.still 6 0 rfl rfl, s.app 0 rfl ((s.lit (ty := .int .i64) 2 rfl [len] 1 rfl rfl).view 2 rfl) b4 fun s421 w408 s => ⟨s.still 6 0 rfl rfl, s.st0 4 rfl rfl rfl fun w409 s => ⟨s.still 6 0 rfl rfl, s.ld0 (ty := yevergreenref12_Store) (x := (s419, s421)) 4 rfl rfl (h _ _ _ (s.pick [1, 0] 7 rfl (by decide)))⟩⟩⟩⟩⟩⟩⟩⟩⟩⟩,
s.allocK fun a423 w410 s => ⟨s.still 6 0 rfl rfl, ⟨s.still 6 1 rfl rfl, ⟨s.still 6 0 rfl rfl, (s.lit (ty := yapi_Rule) 1 rfl [] 0 rfl rfl).app 1 rfl (Sp.rf2_ s (j + 7) hj).1 b1 fun s424 w411 s => ⟨s.still 6 0 rfl rfl, ⟨s.still 6 1 rfl rfl, s.app 1 rfl ((s.lit (ty := yapi_Rule) 3 rfl [e.1] 1 (by simp [flat]) rfl).view 3 rfl) b2 fun s425 w412 s => ⟨s.still 6 0 rfl rfl, ⟨s.still 6 1 rfl rfl, (s.lit (ty := .int .i64) 0 rfl [] 0 rfl rfl).app 0 rfl (Sp.rf2_ s (j + 7) hj).2 b3 fun s426 w413 s => ⟨s.still 6 0 rfl rfl, s.app 0 rfl ((s.lit (ty := .int .i64) 2 rfl [len] 1 rfl rfl).view 2 rfl) b4 fun s427 w414 s => ⟨s.still 6 0 rfl rfl, s.st0 4 rfl rfl rfl fun w415 s => ⟨s.still 6 0 rfl rfl, s.ld0 (ty := yevergreenref12_Store) (x := (s425, s427)) 4 rfl rfl (h _ _ _ (s.pick [1, 0] 7 rfl (by decide)))⟩⟩⟩⟩⟩⟩⟩⟩⟩⟩⟩⟩⟩⟩,
s.allocK fun a429 w416 s => ⟨s.still 5 0 rfl rfl, ⟨s.still 5 1 rfl rfl, ⟨s.still 5 0 rfl rfl, s.allocK fun a430 w417 s => ⟨s.still 6 0 rfl rfl, ⟨s.still 6 1 rfl rfl, ⟨s.still 6 0 rfl rfl, (s.lit (ty := yapi_Rule) 0 rfl [] 0 rfl rfl).app 0 rfl (Sp.rf2_ s (j + 7) hj).1 b1 fun s431 w418 s => ⟨s.still 6 0 rfl rfl, ⟨s.still 6 1 rfl rfl, s.app 0 rfl ((s.lit (ty := yapi_Rule) 3 rfl [e.1] 1 (by simp [flat]) rfl).view 3 rfl) b2 fun s432 w419 s => ⟨s.still 6 0 rfl rfl, ⟨s.still 6 1 rfl rfl, (s.lit (ty := .int .i64) 1 rfl [] 0 rfl rfl).app 1 rfl (Sp.rf2_ s (j + 7) hj).2 b3 fun s433 w420 s => ⟨s.still 6 0 rfl rfl, s.app 1 rfl ((s.lit (ty := .int .i64) 2 rfl [len] 1 rfl rfl).view 2 rfl) b4 fun s434 w421 s => ⟨s.still 6 0 rfl rfl, s.st0 4 rfl rfl rfl fun w422 s => ⟨s.still 6 0 rfl rfl, s.ld0 (ty := yevergreenref12_Store) (x := (s432, s434)) 4 rfl rfl (h _ _ _ (s.pick [0, 1] 7 rfl (by decide)))⟩⟩⟩⟩⟩⟩⟩⟩⟩⟩⟩⟩⟩⟩⟩⟩⟩⟩⟩⟩⟩⟩,
⟨s.allocK fun a436 w423 s => ⟨s.still 3 0 rfl rfl, ⟨s.still 3 1 rfl rfl, ⟨s.at_ 2 rfl, ⟨s.still 3 0 rfl rfl, ⟨s.allocK fun a437 w424 s => ⟨s.still 4 0 rfl rfl, ⟨s.still 4 1 rfl rfl, ⟨s.at_ 3 rfl, ⟨s.still 4 0 rfl rfl, ⟨(s.lit (ty := yapi_Rule) 0 rfl [] 0 rfl rfl).app 0 rfl (Sp.rf2_ s (j + 5) hj).1 b1 fun s438 w425 s => ⟨s.still 4 0 rfl rfl, ⟨s.still 4 1 rfl rfl, ⟨s.at_ 3 rfl, ⟨s.allocK fun a439 w426 s => ⟨s.still 5 0 rfl rfl, ⟨s.still 5 1 rfl rfl, ⟨s.app 1 rfl ((s.lit (ty := yapi_Rule) 0 rfl [e.1] 1 (by simp [flat]) rfl).view 0 rfl) b2 fun s440 w427 s => ⟨s.still 5 0 rfl rfl, ⟨s.still 5 1 rfl rfl, ⟨(s.lit (ty := .int .i64) 2 rfl [] 0 rfl rfl).app 2 rfl (Sp.rf2_ s (j + 6) hj).2 b3 fun s441 w428 s => ⟨s.still 5 0 rfl rfl, s.allocK fun a442 w429 s => ⟨s.still 6 0 rfl rfl, s.app 3 rfl ((s.lit (ty := .int .i64) 0 rfl [len] 1 rfl rfl).view 0 rfl) b4 fun s443 w430 s => ⟨s.still 6 0 rfl rfl, s.st0 4 rfl rfl rfl fun w431 s => ⟨s.still 6 0 rfl rfl, s.ld0 (ty := yevergreenref12_Store) (x := (s440, s443)) 4 rfl rfl (h _ _ _ (s.pick [2, 3] 7 rfl (by decide)))⟩⟩⟩⟩,
s.allocK fun a445 w432 s => ⟨s.still 6 0 rfl rfl, ⟨s.still 6 1 rfl rfl, (s.lit (ty := .int .i64) 3 rfl [] 0 rfl rfl).app 3 rfl (Sp.rf2_ s (j + 7) hj).2 b3 fun s446 w433 s => ⟨s.still 6 0 rfl rfl, s.app 3 rfl ((s.lit (ty := .int .i64) 0 rfl [len] 1 rfl rfl).view 0 rfl) b4 fun s447 w434 s => ⟨s.still 6 0 rfl rfl, s.st0 4 rfl rfl rfl fun w435 s => ⟨s.still 6 0 rfl rfl, s.ld0 (ty := yevergreenref12_Store) (x := (s440, s447)) 4 rfl rfl (h _ _ _ (s.pick [2, 3] 7 rfl (by decide)))⟩⟩⟩⟩⟩⟩⟩⟩,
s.allocK fun a449 w436 s => ⟨s.still 6 0 rfl rfl, ⟨s.still 6 1 rfl rfl, s.app 2 rfl ((s.lit (ty := yapi_Rule) 1 rfl [e.1] 1 (by simp [flat]) rfl).view 1 rfl) b2 fun s450 w437 s => ⟨s.still 6 0 rfl rfl, ⟨s.still 6 1 rfl rfl, (s.lit (ty := .int .i64) 3 rfl [] 0 rfl rfl).app 3 rfl (Sp.rf2_ s (j + 7) hj).2 b3 fun s451 w438 s => ⟨s.still 6 0 rfl rfl, s.app 3 rfl ((s.lit (ty := .int .i64) 0 rfl [len] 1 rfl rfl).view 0 rfl) b4 fun s452 w439 s => ⟨s.still 6 0 rfl rfl, s.st0 4 rfl rfl rfl fun w440 s => ⟨s.still 6 0 rfl rfl, s.ld0 (ty := yevergreenref12_Store) (x := (s450, s452)) 4 rfl rfl (h _ _ _ (s.pick [2, 3] 7 rfl (by decide)))⟩⟩⟩⟩⟩⟩⟩⟩⟩⟩,
s.allocK fun a454 w441 s => ⟨s.still 5 0 rfl rfl, ⟨s.still 5 1 rfl rfl, ⟨s.at_ 4 rfl, s.allocK fun a455 w442 s => ⟨s.still 6 0 rfl rfl, ⟨s.still 6 1 rfl rfl, s.app 2 rfl ((s.lit (ty := yapi_Rule) 0 rfl [e.1] 1 (by simp [flat]) rfl).view 0 rfl) b2 fun s456 w443 s => ⟨s.still 6 0 rfl rfl, ⟨s.still 6 1 rfl rfl, (s.lit (ty := .int .i64) 3 rfl [] 0 rfl rfl).app 3 rfl (Sp.rf2_ s (j + 7) hj).2 b3 fun s457 w444 s => ⟨s.still 6 0 rfl rfl, s.app 3 rfl ((s.lit (ty := .int .i64) 1 rfl [len] 1 rfl rfl).view 1 rfl) b4 fun s458 w445 s => ⟨s.still 6 0 rfl rfl, s.st0 4 rfl rfl rfl fun w446 s => ⟨s.still 6 0 rfl rfl, s.ld0 (ty := yevergreenref12_Store) (x := (s456, s458)) 4 rfl rfl (h _ _ _ (s.pick [2, 3] 7 rfl (by decide)))⟩⟩⟩⟩⟩⟩⟩⟩⟩⟩⟩⟩⟩⟩,
⟨s.allocK fun a460 w447 s => ⟨s.still 5 0 rfl rfl, ⟨s.still 5 1 rfl rfl, ⟨s.still 5 0 rfl rfl, ⟨(s.lit (ty := yapi_Rule) 1 rfl [] 0 rfl rfl).app 1 rfl (Sp.rf2_ s (j + 6) hj).1 b1 fun s461 w448 s => ⟨s.still 5 0 rfl rfl, ⟨s.still 5 1 rfl rfl, ⟨s.app 1 rfl ((s.lit (ty := yapi_Rule) 0 rfl [e.1] 1 (by simp [flat]) rfl).view 0 rfl) b2 fun s462 w449 s => ⟨s.still 5 0 rfl rfl, ⟨s.still 5 1 rfl rfl, ⟨(s.lit (ty := .int .i64) 2 rfl [] 0 rfl rfl).app 2 rfl (Sp.rf2_ s (j + 6) hj).2 b3 fun s463 w450 s => ⟨s.still 5 0 rfl rfl, s.allocK fun a464 w451 s => ⟨s.still 6 0 rfl rfl, s.app 3 rfl ((s.lit (ty := .int .i64) 0 rfl [len] 1 rfl rfl).view 0 rfl) b4 fun s465 w452 s => ⟨s.still 6 0 rfl rfl, s.st0 4 rfl rfl rfl fun w453 s => ⟨s.still 6 0 rfl rfl, s.ld0 (ty := yevergreenref12_Store) (x := (s462, s465)) 4 rfl rfl (h _ _ _ (s.pick [2, 3] 7 rfl (by decide)))⟩⟩⟩⟩,
s.allocK fun a467 w454 s => ⟨s.still 6 0 rfl rfl, ⟨s.still 6 1 rfl rfl, (s.lit (ty := .int .i64) 3 rfl [] 0 rfl rfl).app 3 rfl (Sp.rf2_ s (j + 7) hj).2 b3 fun s468 w455 s => ⟨s.still 6 0 rfl rfl, s.app 3 rfl ((s.lit (ty := .int .i64) 0 rfl [len] 1 rfl rfl).view 0 rfl) b4 fun s469 w456 s => ⟨s.still 6 0 rfl rfl, s.st0 4 rfl rfl rfl fun w457 s => ⟨s.still 6 0 rfl rfl, s.ld0 (ty := yevergreenref12_Store) (x := (s462, s469)) 4 rfl rfl (h _ _ _ (s.pick [2, 3] 7 rfl (by decide)))⟩⟩⟩⟩⟩⟩⟩⟩,
s.allocK fun a471 w458 s => ⟨s.still 6 0 rfl rfl, ⟨s.still 6 1 rfl rfl, s.app 2 rfl ((s.lit (ty := yapi_Rule) 1 rfl [e.1] 1 (by simp [flat]) rfl).view 1 rfl) b2 fun s472 w459 s => ⟨s.still 6 0 rfl rfl, ⟨s.still 6 1 rfl rfl, (s.lit (ty := .int .i64) 3 rfl [] 0 rfl rfl).app 3 rfl (Sp.rf2_ s (j + 7) hj).2 b3 fun s473 w460 s => ⟨s.still 6 0 rfl rfl, s.app 3 rfl ((s.lit (ty := .int .i64) 0 rfl [len] 1 rfl rfl).view 0 rfl) b4 fun s474 w461 s => ⟨s.still 6 0 rfl rfl, s.st0 4 rfl rfl rfl fun w462 s => ⟨s.still 6 0 rfl rfl, s.ld0 (ty := yevergreenref12_Store) (x := (s472, s474)) 4 rfl rfl (h _ _ _ (s.pick [2, 3] 7 rfl (by decide)))⟩⟩⟩⟩⟩⟩⟩⟩⟩⟩,
s.allocK fun a476 w463 s => ⟨s.still 6 0 rfl rfl, ⟨s.still 6 1 rfl rfl, ⟨s.still 6 0 rfl rfl, (s.lit (ty := yapi_Rule) 2 rfl [] 0 rfl rfl).app 2 rfl (Sp.rf2_ s (j + 7) hj).1 b1 fun s477 w464 s => ⟨s.still 6 0 rfl rfl, ⟨s.still 6 1 rfl rfl, s.app 2 rfl ((s.lit (ty := yapi_Rule) 1 rfl [e.1] 1 (by simp [flat]) rfl).view 1 rfl) b2 fun s478 w465 s => ⟨s.still 6 0 rfl rfl, ⟨s.still 6 1 rfl rfl, (s.lit (ty := .int .i64) 3 rfl [] 0 rfl rfl).app 3 rfl (Sp.rf2_ s (j + 7) hj).2 b3 fun s479 w466 s => ⟨s.still 6 0 rfl rfl, s.app 3 rfl ((s.lit (ty := .int .i64) 0 rfl [len] 1 rfl rfl).view 0 rfl) b4 fun s480 w467 s => ⟨s.still 6 0 rfl rfl, s.st0 4 rfl rfl rfl fun w468 s => ⟨s.still 6 0 rfl rfl, s.ld0 (ty := yevergreenref12_Store) (x := (s478, s480)) 4 rfl rfl (h _ _ _ (s.pick [2, 3] 7 rfl (by decide)))⟩⟩⟩⟩⟩⟩⟩⟩⟩⟩⟩⟩⟩⟩,
s.allocK fun a482 w469 s => ⟨s.still 5 0 rfl rfl, ⟨s.still 5 1 rfl rfl, ⟨s.at_ 4 rfl, ⟨s.still 5 0 rfl rfl, ⟨(s.lit (ty := yapi_Rule) 1 rfl [] 0 rfl rfl).app 1 rfl (Sp.rf2_ s (j + 6) hj).1 b1 fun s483 w470 s => ⟨s.still 5 0 rfl rfl, ⟨s.still 5 1 rfl rfl, ⟨s.at_ 4 rfl, s.allocK fun a484 w471 s => ⟨s.still 6 0 rfl rfl, ⟨s.still 6 1 rfl rfl, s.app 2 rfl ((s.lit (ty := yapi_Rule) 0 rfl [e.1] 1 (by simp [flat]) rfl).view 0 rfl) b2 fun s485 w472 s => ⟨s.still 6 0 rfl rfl, ⟨s.still 6 1 rfl rfl, (s.lit (ty := .int .i64) 3 rfl [] 0 rfl rfl).app 3 rfl (Sp.rf2_ s (j + 7) hj).2 b3 fun s486 w473 s => ⟨s.still 6 0 rfl rfl, s.app 3 rfl ((s.lit (ty := .int .i64) 1 rfl [len] 1 rfl rfl).view 1 rfl) b4 fun s487 w474 s => ⟨s.still 6 0 rfl rfl, s.st0 4 rfl rfl rfl fun w475 s => ⟨s.still 6 0 rfl rfl, s.ld0 (ty := yevergreenref12_Store) (x := (s485, s487)) 4 rfl rfl (h _ _ _ (s.pick [2, 3] 7 rfl (by decide)))⟩⟩⟩⟩⟩⟩⟩⟩⟩⟩,
s.allocK fun a489 w476 s => ⟨s.still 6 0 rfl rfl, ⟨s.still 6 1 rfl rfl, ⟨s.still 6 0 rfl rfl, (s.lit (ty := yapi_Rule) 2 rfl [] 0 rfl rfl).app 2 rfl (Sp.rf2_ s (j + 7) hj).1 b1 fun s490 w477 s => ⟨s.still 6 0 rfl rfl, ⟨s.still 6 1 rfl rfl, s.app 2 rfl ((s.lit (ty := yapi_Rule) 0 rfl [e.1] 1 (by simp [flat]) rfl).view 0 rfl) b2 fun s491 w478 s => ⟨s.still 6 0 rfl rfl, ⟨s.still 6 1 rfl rfl, (s.lit (ty := .int .i64) 3 rfl [] 0 rfl rfl).app 3 rfl (Sp.rf2_ s (j + 7) hj).2 b3 fun s492 w479 s => ⟨s.still 6 0 rfl rfl, s.app 3 rfl ((s.lit (ty := .int .i64) 1 rfl [len] 1 rfl rfl).view 1 rfl) b4 fun s493 w480 s => ⟨s.still 6 0 rfl rfl, s.st0 4 rfl rfl rfl fun w481 s => ⟨s.still 6 0 rfl rfl, s.ld0 (ty := yevergreenref12_Store) (x := (s491, s493)) 4 rfl rfl (h _ _ _ (s.pick [2, 3] 7 rfl (by decide)))⟩⟩⟩⟩⟩⟩⟩⟩⟩⟩⟩⟩⟩⟩⟩⟩⟩⟩⟩⟩⟩,
⟨s.allocK fun a495 w482 s => ⟨s.still 4 0 rfl rfl, ⟨s.still 4 1 rfl rfl, ⟨s.still 4 0 rfl rfl, ⟨s.allocK fun a496 w483 s => ⟨s.still 5 0 rfl rfl, ⟨s.still 5 1 rfl rfl, ⟨s.still 5 0 rfl rfl, ⟨(s.lit (ty := yapi_Rule) 0 rfl [] 0 rfl rfl).app 0 rfl (Sp.rf2_ s (j + 6) hj).1 b1 fun s497 w484 s => ⟨s.still 5 0 rfl rfl, ⟨s.still 5 1 rfl rfl, ⟨s.app 0 rfl ((s.lit (ty := yapi_Rule) 1 rfl [e.1] 1 (by simp [flat]) rfl).view 1 rfl) b2 fun s498 w485 s => ⟨s.still 5 0 rfl rfl, ⟨s.still 5 1 rfl rfl, ⟨(s.lit (ty := .int .i64) 2 rfl [] 0 rfl rfl).app 2 rfl (Sp.rf2_ s (j + 6) hj).2 b3 fun s499 w486 s => ⟨s.still 5 0 rfl rfl, s.allocK fun a500 w487 s => ⟨s.still 6 0 rfl rfl, s.app 3 rfl ((s.lit (ty := .int .i64) 0 rfl [len] 1 rfl rfl).view 0 rfl) b4 fun s501 w488 s => ⟨s.still 6 0 rfl rfl, s.st0 4 rfl rfl rfl fun w489 s => ⟨s.still 6 0 rfl rfl, s.ld0 (ty := yevergreenref12_Store) (x := (s498, s501)) 4 rfl rfl (h _ _ _ (s.pick [1, 3] 7 rfl (by decide)))⟩⟩⟩⟩,
s.allocK fun a503 w490 s => ⟨s.still 6 0 rfl rfl, ⟨s.still 6 1 rfl rfl, (s.lit (ty := .int .i64) 3 rfl [] 0 rfl rfl).app 3 rfl (Sp.rf2_ s (j + 7) hj).2 b3 fun s504 w491 s => ⟨s.still 6 0 rfl rfl, s.app 3 rfl ((s.lit (ty := .int .i64) 0 rfl [len] 1 rfl rfl).view 0 rfl) b4 fun s505 w492 s => ⟨s.still 6 0 rfl rfl, s.st0 4 rfl rfl rfl fun w493 s => ⟨s.still 6 0 rfl rfl, s.ld0 (ty := yevergreenref12_Store) (x := (s498, s505)) 4 rfl rfl (h _ _ _ (s.pick [1, 3] 7 rfl (by decide)))⟩⟩⟩⟩⟩⟩⟩⟩,
s.allocK fun a507 w494 s => ⟨s.still 6 0 rfl rfl, ⟨s.still 6 1 rfl rfl, s.app 1 rfl ((s.lit (ty := yapi_Rule) 2 rfl [e.1] 1 (by simp [flat]) rfl).view 2 rfl) b2 fun s508 w495 s => ⟨s.still 6 0 rfl rfl, ⟨s.still 6 1 rfl rfl, (s.lit (ty := .int .i64) 3 rfl [] 0 rfl rfl).app 3 rfl (Sp.rf2_ s (j + 7) hj).2 b3 fun s509 w496 s => ⟨s.still 6 0 rfl rfl, s.app 3 rfl ((s.lit (ty := .int .i64) 0 rfl [len] 1 rfl rfl).view 0 rfl) b4 fun s510 w497 s => ⟨s.still 6 0 rfl rfl, s.st0 4 rfl rfl rfl fun w498 s => ⟨s.still 6 0 rfl rfl, s.ld0 (ty := yevergreenref12_Store) (x := (s508, s510)) 4 rfl rfl (h _ _ _ (s.pick [1, 3] 7 rfl (by decide)))⟩⟩⟩⟩⟩⟩⟩⟩⟩⟩,
s.allocK fun a512 w499 s => ⟨s.still 6 0 rfl rfl, ⟨s.still 6 1 rfl rfl, ⟨s.still 6 0 rfl rfl, (s.lit (ty := yapi_Rule) 1 rfl [] 0 rfl rfl).app 1 rfl (Sp.rf2_ s (j + 7) hj).1 b1 fun s513 w500 s => ⟨s.still 6 0 rfl rfl, ⟨s.still 6 1 rfl rfl, s.app 1 rfl ((s.lit (ty := yapi_Rule) 2 rfl [e.1] 1 (by simp [flat]) rfl).view 2 rfl) b2 fun s514 w501 s => ⟨s.still 6 0 rfl rfl, ⟨s.still 6 1 rfl rfl, (s.lit (ty := .int .i64) 3 rfl [] 0 rfl rfl).app 3 rfl (Sp.rf2_ s (j + 7) hj).2 b3 fun s515 w502 s => ⟨s.still 6 0 rfl rfl, s.app 3 rfl ((s.lit (ty := .int .i64) 0 rfl [len] 1 rfl rfl).view 0 rfl) b4 fun s516 w503 s => ⟨s.still 6 0 rfl rfl, s.st0 4 rfl rfl rfl fun w504 s => ⟨s.still 6 0 rfl rfl, s.ld0 (ty := yevergreenref12_Store) (x := (s514, s516)) 4 rfl rfl (h _ _ _ (s.pick [1, 3] 7 rfl (by decide)))⟩⟩⟩⟩⟩⟩⟩⟩⟩⟩⟩⟩⟩⟩,
s.allocK fun a518 w505 s => ⟨s.still 5 0 rfl rfl, ⟨s.still 5 1 rfl rfl, ⟨s.still 5 0 rfl rfl, s.allocK fun a519 w506 s => ⟨s.still 6 0 rfl rfl, ⟨s.still 6 1 rfl rfl, ⟨s.still 6 0 rfl rfl, (s.lit (ty := yapi_Rule) 0 rfl [] 0 rfl rfl).app 0 rfl (Sp.rf2_ s (j + 7) hj).1 b1 fun s520 w507 s => ⟨s.still 6 0 rfl rfl, ⟨s.still 6 1 rfl rfl, s.app 0 rfl ((s.lit (ty := yapi_Rule) 2 rfl [e.1] 1 (by simp [flat]) rfl).view 2 rfl) b2 fun s521 w508 s => ⟨s.still 6 0 rfl rfl, ⟨s.still 6 1 rfl rfl, (s.lit (ty := .int .i64) 3 rfl [] 0 rfl rfl).app 3 rfl (Sp.rf2_ s (j + 7) hj).2 b3 fun s522 w509 s => ⟨s.still 6 0 rfl rfl, s.app 3 rfl ((s.lit (ty := .int .i64) 1 rfl [len] 1 rfl rfl).view 1 rfl) b4 fun s523 w510 s => ⟨s.still 6 0 rfl rfl, s.st0 4 rfl rfl rfl fun w511 s => ⟨s.still 6 0 rfl rfl, s.ld0 (ty := yevergreenref12_Store) (x := (s521, s523)) 4 rfl rfl (h _ _ _ (s.pick [0, 3] 7 rfl (by decide)))⟩⟩⟩⟩⟩⟩⟩⟩⟩⟩⟩⟩⟩⟩⟩⟩⟩,
s.allocK fun a525 w512 s => ⟨s.still 4 0 rfl rfl, ⟨s.still 4 1 rfl rfl, ⟨s.at_ 3 rfl, ⟨s.still 4 0 rfl rfl, ⟨s.allocK fun a526 w513 s => ⟨s.still 5 0 rfl rfl, ⟨s.still 5 1 rfl rfl, ⟨s.at_ 4 rfl, ⟨s.still 5 0 rfl rfl, ⟨(s.lit (ty := yapi_Rule) 0 rfl [] 0 rfl rfl).app 0 rfl (Sp.rf2_ s (j + 6) hj).1 b1 fun s527 w514 s => ⟨s.still 5 0 rfl rfl, ⟨s.still 5 1 rfl rfl, ⟨s.at_ 4 rfl, s.allocK fun a528 w515 s => ⟨s.still 6 0 rfl rfl, ⟨s.still 6 1 rfl rfl, s.app 1 rfl ((s.lit (ty := yapi_Rule) 0 rfl [e.1] 1 (by simp [flat]) rfl).view 0 rfl) b2 fun s529 w516 s => ⟨s.still 6 0 rfl rfl, ⟨s.still 6 1 rfl rfl, (s.lit (ty := .int .i64) 3 rfl [] 0 rfl rfl).app 3 rfl (Sp.rf2_ s (j + 7) hj).2 b3 fun s530 w517 s => ⟨s.still 6 0 rfl rfl, s.app 3 rfl ((s.lit (ty := .int .i64) 2 rfl [len] 1 rfl rfl).view 2 rfl) b4 fun s531 w518 s => ⟨s.still 6 0 rfl rfl, s.st0 4 rfl rfl rfl fun w519 s => ⟨s.still 6 0 rfl rfl, s.ld0 (ty := yevergreenref12_Store) (x := (s529, s531)) 4 rfl rfl (h _ _ _ (s.pick [1, 3] 7 rfl (by decide)))⟩⟩⟩⟩⟩⟩⟩⟩⟩⟩,
s.allocK fun a533 w520 s => ⟨s.still 6 0 rfl rfl, ⟨s.still 6 1 rfl rfl, ⟨s.still 6 0 rfl rfl, (s.lit (ty := yapi_Rule) 1 rfl [] 0 rfl rfl).app 1 rfl (Sp.rf2_ s (j + 7) hj).1 b1 fun s534 w521 s => ⟨s.still 6 0 rfl rfl, ⟨s.still 6 1 rfl rfl, s.app 1 rfl ((s.lit (ty := yapi_Rule) 0 rfl [e.1] 1 (by simp [flat]) rfl).view 0 rfl) b2 fun s535 w522 s => ⟨s.still 6 0 rfl rfl, ⟨s.still 6 1 rfl rfl, (s.lit (ty := .int .i64) 3 rfl [] 0 rfl rfl).app 3 rfl (Sp.rf2_ s (j + 7) hj).2 b3 fun s536 w523 s => ⟨s.still 6 0 rfl rfl, s.app 3 rfl ((s.lit (ty := .int .i64) 2 rfl [len] 1 rfl rfl).view 2 rfl) b4 fun s537 w524 s => ⟨s.still 6 0 rfl rfl, s.st0 4 rfl rfl rfl fun w525 s => ⟨s.still 6 0 rfl rfl, s.ld0 (ty := yevergreenref12_Store) (x := (s535, s537)) 4 rfl rfl (h _ _ _ (s.pick [1, 3] 7 rfl (by decide)))⟩⟩⟩⟩⟩⟩⟩⟩⟩⟩⟩⟩⟩⟩⟩,
s.allocK fun a539 w526 s => ⟨s.still 5 0 rfl rfl, ⟨s.still 5 1 rfl rfl, ⟨s.still 5 0 rfl rfl, s.allocK fun a540 w527 s => ⟨s.still 6 0 rfl rfl, ⟨s.still 6 1 rfl rfl, ⟨s.still 6 0 rfl rfl, (s.lit (ty := yapi_Rule) 0 rfl [] 0 rfl rfl).app 0 rfl (Sp.rf2_ s (j + 7) hj).1 b1 fun s541 w528 s => ⟨s.still 6 0 rfl rfl, ⟨s.still 6 1 rfl rfl, s.app 0 rfl ((s.lit (ty := yapi_Rule) 1 rfl [e.1] 1 (by simp [flat]) rfl).view 1 rfl) b2 fun s542 w529 s => ⟨s.still 6 0 rfl rfl, ⟨s.still 6 1 rfl rfl, (s.lit (ty := .int .i64) 3 rfl [] 0 rfl rfl).app 3 rfl (Sp.rf2_ s (j + 7) hj).2 b3 fun s543 w530 s => ⟨s.still 6 0 rfl rfl, s.app 3 rfl ((s.lit (ty := .int .i64) 2 rfl [len] 1 rfl rfl).view 2 rfl) b4 fun s544 w531 s => ⟨s.still 6 0 rfl rfl, s.st0 4 rfl rfl rfl fun w532 s => ⟨s.still 6 0 rfl rfl, s.ld0 (ty := yevergreenref12_Store) (x := (s542, s544)) 4 rfl rfl (h _ _ _ (s.pick [0, 3] 7 rfl (by decide)))⟩⟩⟩⟩⟩⟩⟩⟩⟩⟩⟩⟩⟩⟩⟩⟩⟩⟩⟩⟩⟩⟩⟩⟩,
s.allocK fun a546 w533 s => ⟨s.still 3 0 rfl rfl, ⟨s.still 3 1 rfl rfl, ⟨s.at_ 2 rfl, ⟨s.still 3 0 rfl rfl, ⟨s.allocK fun a547 w534 s => ⟨s.still 4 0 rfl rfl, ⟨s.still 4 1 rfl rfl, ⟨s.at_ 3 rfl, ⟨s.still 4 0 rfl rfl, ⟨(s.lit (ty := yapi_Rule) 0 rfl [] 0 rfl rfl).app 0 rfl (Sp.rf2_ s (j + 5) hj).1 b1 fun s548 w535 s => ⟨s.still 4 0 rfl rfl, ⟨s.still 4 1 rfl rfl, ⟨s.at_ 3 rfl, ⟨s.allocK fun a549 w536 s => ⟨s.still 5 0 rfl rfl, ⟨s.still 5 1 rfl rfl, ⟨s.app 1 rfl ((s.lit (ty := yapi_Rule) 0 rfl [e.1] 1 (by simp [flat]) rfl).view 0 rfl) b2 fun s550 w537 s => ⟨s.still 5 0 rfl rfl, ⟨s.still 5 1 rfl rfl, s.allocK fun a551 w538 s => ⟨s.still 6 0 rfl rfl, ⟨s.still 6 1 rfl rfl, (s.lit (ty := .int .i64) 0 rfl [] 0 rfl rfl).app 0 rfl (Sp.rf2_ s (j + 7) hj).2 b3 fun s552 w539 s => ⟨s.still 6 0 rfl rfl, s.app 0 rfl ((s.lit (ty := .int .i64) 3 rfl [len] 1 rfl rfl).view 3 rfl) b4 fun s553 w540 s => ⟨s.still 6 0 rfl rfl, s.st0 4 rfl rfl rfl fun w541 s => ⟨s.still 6 0 rfl rfl, s.ld0 (ty := yevergreenref12_Store) (x := (s550, s553)) 4 rfl rfl (h _ _ _ (s.pick [2, 0] 7 rfl (by decide)))⟩⟩⟩⟩⟩⟩⟩,
s.allocK fun a555 w542 s => ⟨s.still 6 0 rfl rfl, ⟨s.still 6 1 rfl rfl, s.app 2 rfl ((s.lit (ty := yapi_Rule) 1 rfl [e.1] 1 (by simp [flat]) rfl).view 1 rfl) b2 fun s556 w543 s => ⟨s.still 6 0 rfl rfl, ⟨s.still 6 1 rfl rfl, (s.lit (ty := .int .i64) 0 rfl [] 0 rfl rfl).app 0 rfl (Sp.rf2_ s (j + 7) hj).2 b3 fun s557 w544 s => ⟨s.still 6 0 rfl rfl, s.app 0 rfl ((s.lit (ty := .int .i64) 3 rfl [len] 1 rfl rfl).view 3 rfl) b4 fun s558 w545 s => ⟨s.still 6 0 rfl rfl, s.st0 4 rfl rfl rfl fun w546 s => ⟨s.still 6 0 rfl rfl, s.ld0 (ty := yevergreenref12_Store) (x := (s556, s558)) 4 rfl rfl (h _ _ _ (s.pick [2, 0] 7 rfl (by decide)))⟩⟩⟩⟩⟩⟩⟩⟩⟩⟩,
s.allocK fun a560 w547 s => ⟨s.still 5 0 rfl rfl, ⟨s.still 5 1 rfl rfl, ⟨s.at_ 4 rfl, s.allocK fun a561 w548 s => ⟨s.still 6 0 rfl rfl, ⟨s.still 6 1 rfl rfl, s.app 2 rfl ((s.lit (ty := yapi_Rule) 0 rfl [e.1] 1 (by simp [flat]) rfl).view 0 rfl) b2 fun s562 w549 s => ⟨s.still 6 0 rfl rfl, ⟨s.still 6 1 rfl rfl, (s.lit (ty := .int .i64) 1 rfl [] 0 rfl rfl).app 1 rfl (Sp.rf2_ s (j + 7) hj).2 b3 fun s563 w550 s => ⟨s.still 6 0 rfl rfl, s.app 1 rfl ((s.lit (ty := .int .i64) 3 rfl [len] 1 rfl rfl).view 3 rfl) b4 fun s564 w551 s => ⟨s.still 6 0 rfl rfl, s.st0 4 rfl rfl rfl fun w552 s => ⟨s.still 6 0 rfl rfl, s.ld0 (ty := yevergreenref12_Store) (x := (s562, s564)) 4 rfl rfl (h _ _ _ (s.pick [2, 1] 7 rfl (by decide)))⟩⟩⟩⟩⟩⟩⟩⟩⟩⟩⟩⟩⟩⟩,
⟨s.allocK fun a566 w553 s => ⟨s.still 5 0 rfl rfl, ⟨s.still 5 1 rfl rfl, ⟨s.still 5 0 rfl rfl, ⟨(s.lit (ty := yapi_Rule) 1 rfl [] 0 rfl rfl).app 1 rfl (Sp.rf2_ s (j + 6) hj).1 b1 fun s567 w554 s => ⟨s.still 5 0 rfl rfl, ⟨s.still 5 1 rfl rfl, ⟨s.app 1 rfl ((s.lit (ty := yapi_Rule) 0 rfl [e.1] 1 (by simp [flat]) rfl).view 0 rfl) b2 fun s568 w555 s => ⟨s.still 5 0 rfl rfl, ⟨s.still 5 1 rfl rfl, s.allocK fun a569 w556 s => ⟨s.still 6 0 rfl rfl, ⟨s.still 6 1 rfl rfl, (s.lit (ty := .int .i64) 0 rfl [] 0 rfl rfl).app 0 rfl (Sp.rf2_ s (j + 7) hj).2 b3 fun s570 w557 s => ⟨s.still 6 0 rfl rfl, s.app 0 rfl ((s.lit (ty := .int .i64) 3 rfl [len] 1 rfl rfl).view 3 rfl) b4 fun s571 w558 s => ⟨s.still 6 0 rfl rfl, s.st0 4 rfl rfl rfl fun w559 s => ⟨s.still 6 0 rfl rfl, s.ld0 (ty := yevergreenref12_Store) (x := (s568, s571)) 4 rfl rfl (h _ _ _ (s.pick [2, 0] 7 rfl (by decide)))⟩⟩⟩⟩⟩⟩⟩,
s.allocK fun a573 w560 s => ⟨s.still 6 0 rfl rfl, ⟨s.still 6 1 rfl rfl, s.app 2 rfl ((s.lit (ty := yapi_Rule) 1 rfl [e.1] 1 (by simp [flat]) rfl).view 1 rfl) b2 fun s574 w561 s => ⟨s.still 6 0 rfl rfl, ⟨s.still 6 1 rfl rfl, (s.lit (ty := .int .i64) 0 rfl [] 0 rfl rfl).app 0 rfl (Sp.rf2_ s (j + 7) hj).2 b3 fun s575 w562 s => ⟨s.still 6 0 rfl rfl, s.app 0 rfl ((s.lit (ty := .int .i64) 3 rfl [len] 1 rfl rfl).view 3 rfl) b4 fun s576 w563 s => ⟨s.still 6 0 rfl rfl, s.st0 4 rfl rfl rfl fun w564 s => ⟨s.still 6 0 rfl rfl, s.ld0 (ty := yevergreenref12_Store) (x := (s574, s576)) 4 rfl rfl (h _ _ _ (s.pick [2, 0] 7 rfl (by decide)))⟩⟩⟩⟩⟩⟩⟩⟩⟩⟩,
s.allocK fun a578 w565 s => ⟨s.still 6 0 rfl rfl, ⟨s.still 6 1 rfl rfl, ⟨s.still 6 0 rfl rfl, (s.lit (ty := yapi_Rule) 2 rfl [] 0 rfl rfl).app 2 rfl (Sp.rf2_ s (j + 7) hj).1 b1 fun s579 w566 s => ⟨s.still 6 0 rfl rfl, ⟨s.still 6 1 rfl rfl, s.app 2 rfl ((s.lit (ty := yapi_Rule) 1 rfl [e.1] 1 (by simp [flat]) rfl).view 1 rfl) b2 fun s580 w567 s => ⟨s.still 6 0 rfl rfl, ⟨s.still 6 1 rfl rfl, (s.lit (ty := .int .i64) 0 rfl [] 0 rfl rfl).app 0 rfl (Sp.rf2_ s (j + 7) hj).2 b3 fun s581 w568 s => ⟨s.still 6 0 rfl rfl, s.app 0 rfl ((s.lit (ty := .int .i64) 3 rfl [len] 1 rfl rfl).view 3 rfl) b4 fun s582 w569 s => ⟨s.still 6 0 rfl rfl, s.st0 4 rfl rfl rfl fun w570 s => ⟨s.still 6 0 rfl rfl, s.ld0 (ty := yevergreenref12_Store) (x := (s580, s582)) 4 rfl rfl (h _ _ _ (s.pick [2, 0] 7 rfl (by decide)))⟩⟩⟩⟩⟩⟩⟩⟩⟩⟩⟩⟩⟩⟩,
s.allocK fun a584 w571 s => ⟨s.still 5 0 rfl rfl, ⟨s.still 5 1 rfl rfl, ⟨s.at_ 4 rfl, ⟨s.still 5 0 rfl rfl, ⟨(s.lit (ty := yapi_Rule) 1 rfl [] 0 rfl rfl).app 1 rfl (Sp.rf2_ s (j + 6) hj).1 b1 fun s585 w572 s => ⟨s.still 5 0 rfl rfl, ⟨s.still 5 1 rfl rfl, ⟨s.at_ 4 rfl, s.allocK fun a586 w573 s => ⟨s.still 6 0 rfl rfl, ⟨s.still 6 1 rfl rfl, s.app 2 rfl ((s.lit (ty := yapi_Rule) 0 rfl [e.1] 1 (by simp [flat]) rfl).view 0 rfl) b2 fun s587 w574 s => ⟨s.still 6 0 rfl rfl, ⟨s.still 6 1 rfl rfl, (s.lit (ty := .int .i64) 1 rfl [] 0 rfl rfl).app 1 rfl (Sp.rf2_ s (j + 7) hj).2 b3 fun s588 w575 s => ⟨s.still 6 0 rfl rfl, s.app 1 rfl ((s.lit (ty := .int .i64) 3 rfl [len] 1 rfl rfl).view 3 rfl) b4 fun s589 w576 s => ⟨s.still 6 0 rfl rfl, s.st0 4 rfl rfl rfl fun w577 s => ⟨s.still 6 0 rfl rfl, s.ld0 (ty := yevergreenref12_Store) (x := (s587, s589)) 4 rfl rfl (h _ _ _ (s.pick [2, 1] 7 rfl (by decide)))⟩⟩⟩⟩⟩⟩⟩⟩⟩⟩,
s.allocK fun a591 w578 s => ⟨s.still 6 0 rfl rfl, ⟨s.still 6 1 rfl rfl, ⟨s.still 6 0 rfl rfl, (s.lit (ty := yapi_Rule) 2 rfl [] 0 rfl rfl).app 2 rfl (Sp.rf2_ s (j + 7) hj).1 b1 fun s592 w579 s => ⟨s.still 6 0 rfl rfl, ⟨s.still 6 1 rfl rfl, s.app 2 rfl ((s.lit (ty := yapi_Rule) 0 rfl [e.1] 1 (by simp [flat]) rfl).view 0 rfl) b2 fun s593 w580 s => ⟨s.still 6 0 rfl rfl, ⟨s.still 6 1 rfl rfl, (s.lit (ty := .int .i64) 1 rfl [] 0 rfl rfl).app 1 rfl (Sp.rf2_ s (j + 7) hj).2 b3 fun s594 w581 s => ⟨s.still 6 0 rfl rfl, s.app 1 rfl ((s.lit (ty := .int .i64) 3 rfl [len] 1 rfl rfl).view 3 rfl) b4 fun s595 w582 s => ⟨s.still 6 0 rfl rfl, s.st0 4 rfl rfl rfl fun w583 s => ⟨s.still 6 0 rfl rfl, s.ld0 (ty := yevergreenref12_Store) (x := (s593, s595)) 4 rfl rfl (h _ _ _ (s.pick [2, 1] 7 rfl (by decide)))⟩⟩⟩⟩⟩⟩⟩⟩⟩⟩⟩⟩⟩⟩⟩⟩⟩⟩⟩⟩⟩,
⟨s.allocK fun a597 w584 s => ⟨s.still 4 0 rfl rfl, ⟨s.still 4 1 rfl rfl, ⟨s.still 4 0 rfl rfl, ⟨s.allocK fun a598 w585 s => ⟨s.still 5 0 rfl rfl, ⟨s.still 5 1 rfl rfl, ⟨s.still 5 0 rfl rfl, ⟨(s.lit (ty := yapi_Rule) 0 rfl [] 0 rfl rfl).app 0 rfl (Sp.rf2_ s (j + 6) hj).1 b1 fun s599 w586 s => ⟨s.still 5 0 rfl rfl, ⟨s.still 5 1 rfl rfl, ⟨s.app 0 rfl ((s.lit (ty := yapi_Rule) 1 rfl [e.1] 1 (by simp [flat]) rfl).view 1 rfl) b2 fun s600 w587 s => ⟨s.still 5 0 rfl rfl, ⟨s.still 5 1 rfl rfl, s.allocK fun a601 w588 s => ⟨s.still 6 0 rfl rfl, ⟨s.still 6 1 rfl rfl, (s.lit (ty := .int .i64) 0 rfl [] 0 rfl rfl).app 0 rfl (Sp.rf2_ s (j + 7) hj).2 b3 fun s602 w589 s => ⟨s.still 6 0 rfl rfl, s.app 0 rfl ((s.lit (ty := .int .i64) 3 rfl [len] 1 rfl rfl).view 3 rfl) b4 fun s603 w590 s => ⟨s.still 6 0 rfl rfl, s.st0 4 rfl rfl rfl fun w591 s => ⟨s.still 6 0 rfl rfl, s.ld0 (ty := yevergreenref12_Store) (x := (s600, s603)) 4 rfl rfl (h _ _ _ (s.pick [1, 0] 7 rfl (by decide)))⟩⟩⟩⟩⟩⟩⟩,
s.allocK fun a605 w592 s => ⟨s.still 6 0 rfl rfl, ⟨s.still 6 1 rfl rfl, s.app 1 rfl ((s.lit (ty := yapi_Rule) 2 rfl [e.1] 1 (by simp [flat]) rfl).view 2 rfl) b2 fun s606 w593 s => ⟨s.still 6 0 rfl rfl, ⟨s.still 6 1 rfl rfl, (s.lit (ty := .int .i64) 0 rfl [] 0 rfl rfl).app 0 rfl (Sp.rf2_ s (j + 7) hj).2 b3 fun s607 w594 s => ⟨s.still 6 0 rfl rfl, s.app 0 rfl ((s.lit (ty := .int .i64) 3 rfl [len] 1 rfl rfl).view 3 rfl) b4 fun s608 w595 s => ⟨s.still 6 0 rfl rfl, s.st0 4 rfl rfl rfl fun w596 s => ⟨s.still 6 0 rfl rfl, s.ld0 (ty := yevergreenref12_Store) (x := (s606, s608)) 4 rfl rfl (h _ _ _ (s.pick [1, 0] 7 rfl (by decide)))⟩⟩⟩⟩⟩⟩⟩⟩⟩⟩,
s.allocK fun a610 w597 s => ⟨s.still 6 0 rfl rfl, ⟨s.still 6 1 rfl rfl, ⟨s.still 6 0 rfl rfl, (s.lit (ty := yapi_Rule) 1 rfl [] 0 rfl rfl).app 1 rfl (Sp.rf2_ s (j + 7) hj).1 b1 fun s611 w598 s => ⟨s.still 6 0 rfl rfl, ⟨s.still 6 1 rfl rfl, s.app 1 rfl ((s.lit (ty := yapi_Rule) 2 rfl [e.1] 1 (by simp [flat]) rfl).view 2 rfl) b2 fun s612 w599 s => ⟨s.still 6 0 rfl rfl, ⟨s.still 6 1 rfl rfl, (s.lit (ty := .int .i64) 0 rfl [] 0 rfl rfl).app 0 rfl (Sp.rf2_ s (j + 7) hj).2 b3 fun s613 w600 s => ⟨s.still 6 0 rfl rfl, s.app 0 rfl ((s.lit (ty := .int .i64) 3 rfl [len] 1 rfl rfl).view 3 rfl) b4 fun s614 w601 s => ⟨s.still 6 0 rfl rfl, s.st0 4 rfl rfl rfl fun w602 s => ⟨s.still 6 0 rfl rfl, s.ld0 (ty := yevergreenref12_Store) (x := (s612, s614)) 4 rfl rfl (h _ _ _ (s.pick [1, 0] 7 rfl (by decide)))⟩⟩⟩⟩⟩⟩⟩⟩⟩⟩⟩⟩⟩⟩,
s.allocK fun a616 w603 s => ⟨s.still 5 0 rfl rfl, ⟨s.still 5 1 rfl rfl, ⟨s.still 5 0 rfl rfl, s.allocK fun a617 w604 s => ⟨s.still 6 0 rfl rfl, ⟨s.still 6 1 rfl rfl, ⟨s.still 6 0 rfl rfl, (s.lit (ty := yapi_Rule) 0 rfl [] 0 rfl rfl).app 0 rfl (Sp.rf2_ s (j + 7) hj).1 b1 fun s618 w605 s => ⟨s.still 6 0 rfl rfl, ⟨s.still 6 1 rfl rfl, s.app 0 rfl ((s.lit (ty := yapi_Rule) 2 rfl [e.1] 1 (by simp [flat]) rfl).view 2 rfl) b2 fun s619 w606 s => ⟨s.still 6 0 rfl rfl, ⟨s.still 6 1 rfl rfl, (s.lit (ty := .int .i64) 1 rfl [] 0 rfl rfl).app 1 rfl (Sp.rf2_ s (j + 7) hj).2 b3 fun s620 w607 s => ⟨s.still 6 0 rfl rfl, s.app 1 rfl ((s.lit (ty := .int .i64) 3 rfl [len] 1 rfl rfl).view 3 rfl) b4 fun s621 w608 s => ⟨s.still 6 0 rfl rfl, s.st0 4 rfl rfl rfl fun w609 s => ⟨s.still 6 0 rfl rfl, s.ld0 (ty := yevergreenref12_Store) (x := (s619, s621)) 4 rfl rfl (h _ _ _ (s.pick [0, 1] 7 rfl (by decide)))⟩⟩⟩⟩⟩⟩⟩⟩⟩⟩⟩⟩⟩⟩⟩⟩⟩,
s.allocK fun a623 w610 s => ⟨s.still 4 0 rfl rfl, ⟨s.still 4 1 rfl rfl, ⟨s.at_ 3 rfl, ⟨s.still 4 0 rfl rfl, ⟨s.allocK fun a624 w611 s => ⟨s.still 5 0 rfl rfl, ⟨s.still 5 1 rfl rfl, ⟨s.at_ 4 rfl, ⟨s.still 5 0 rfl rfl, ⟨(s.lit (ty := yapi_Rule) 0 rfl [] 0 rfl rfl).app 0 rfl (Sp.rf2_ s (j + 6) hj).1 b1 fun s625 w612 s => ⟨s.still 5 0 rfl rfl, ⟨s.still 5 1 rfl rfl, ⟨s.at_ 4 rfl, s.allocK fun a626 w613 s => ⟨s.still 6 0 rfl rfl, ⟨s.still 6 1 rfl rfl, s.app 1 rfl ((s.lit (ty := yapi_Rule) 0 rfl [e.1] 1 (by simp [flat]) rfl).view 0 rfl) b2 fun s627 w614 s => ⟨s.still 6 0 rfl rfl, ⟨s.still 6 1 rfl rfl, (s.lit (ty := .int .i64) 2 rfl [] 0 rfl rfl).app 2 rfl (Sp.rf2_ s (j + 7) hj).2 b3 fun s628 w615 s => ⟨s.still 6 0 rfl rfl, s.app 2 rfl ((s.lit (ty := .int .i64) 3 rfl [len] 1 rfl rfl).view 3 rfl) b4 fun s629 w616 s => ⟨s.still 6 0 rfl rfl, s.st0 4 rfl rfl rfl fun w617 s => ⟨s.still 6 0 rfl rfl, s.ld0 (ty := yevergreenref12_Store) (x := (s627, s629)) 4 rfl rfl (h _ _ _ (s.pick [1, 2] 7 rfl (by decide)))⟩⟩⟩⟩⟩⟩⟩⟩⟩⟩,
s.allocK fun a631 w618 s => ⟨s.still 6 0 rfl rfl, ⟨s.still 6 1 rfl rfl, ⟨s.still 6 0 rfl rfl, (s.lit (ty := yapi_Rule) 1 rfl [] 0 rfl rfl).app 1 rfl (Sp.rf2_ s (j + 7) hj).1 b1 fun s632 w619 s => ⟨s.still 6 0 rfl rfl, ⟨s.still 6 1 rfl rfl, s.app 1 rfl ((s.lit (ty := yapi_Rule) 0 rfl [e.1] 1 (by simp [flat]) rfl).view 0 rfl) b2 fun s633 w620 s => ⟨s.still 6 0 rfl rfl, ⟨s.still 6 1 rfl rfl, (s.lit (ty := .int .i64) 2 rfl [] 0 rfl rfl).app 2 rfl (Sp.rf2_ s (j + 7) hj).2 b3 fun s634 w621 s => ⟨s.still 6 0 rfl rfl, s.app 2 rfl ((s.lit (ty := .int .i64) 3 rfl [len] 1 rfl rfl).view 3 rfl) b4 fun s635 w622 s => ⟨s.still 6 0 rfl rfl, s.st0 4 rfl rfl rfl fun w623 s => ⟨s.still 6 0 rfl rfl, s.ld0 (ty := yevergreenref12_Store) (x := (s633, s635)) 4 rfl rfl (h _ _ _ (s.pick [1, 2] 7 rfl (by decide)))⟩⟩⟩⟩⟩⟩⟩⟩⟩⟩⟩⟩⟩⟩⟩,
s.allocK fun a637 w624 s => ⟨s.still 5 0 rfl rfl, ⟨s.still 5 1 rfl rfl, ⟨s.still 5 0 rfl rfl, s.allocK fun a638 w625 s => ⟨s.still 6 0 rfl rfl, ⟨s.still 6 1 rfl rfl, ⟨s.still 6 0 rfl rfl, (s.lit (ty := yapi_Rule) 0 rfl [] 0 rfl rfl).app 0 rfl (Sp.rf2_ s (j + 7) hj).1 b1 fun s639 w626 s => ⟨s.still 6 0 rfl rfl, ⟨s.still 6 1 rfl rfl, s.app 0 rfl ((s.lit (ty := yapi_Rule) 1 rfl [e.1] 1 (by simp [flat]) rfl).view 1 rfl) b2 fun s640 w627 s => ⟨s.still 6 0 rfl rfl, ⟨s.still 6 1 rfl rfl, (s.lit (ty := .int .i64) 2 rfl [] 0 rfl rfl).app 2 rfl (Sp.rf2_ s (j + 7) hj).2 b3 fun s641 w628 s => ⟨s.still 6 0 rfl rfl, s.app 2 rfl ((s.lit (ty := .int .i64) 3 rfl [len] 1 rfl rfl).view 3 rfl) b4 fun s642 w629 s => ⟨s.still 6 0 rfl rfl, s.st0 4 rfl rfl rfl fun w630 s => ⟨s.still 6 0 rfl rfl, s.ld0 (ty := yevergreenref12_Store) (x := (s640, s642)) 4 rfl rfl (h _ _ _ (s.pick [0, 2] 7 rfl (by decide)))⟩⟩⟩⟩⟩⟩⟩⟩⟩⟩⟩⟩⟩⟩⟩⟩⟩⟩⟩⟩⟩⟩⟩⟩⟩⟩⟩
theorem ref12_Add_spec {e : ET} {len : Int} (hlen : len = e.2.1.1) (s : Sp w0 Ω w) (j : Nat) (hj : Ω[j]? = some (rf2 m T)) (hl : T.length < 1048576) (hm : (T.length : Int) < most) {K : yevergreenref12_Store.T × Int → World → Prop}
    (h : ∀ m' w', Sp w0 (rf2 m' (pAdd T most e).1 :: Ω) w' → K (m', (pAdd T most e).2.1) w') : C_ref12_Add m e.1 len K w := by
  cases hf : lkR T e.1 with
  | none =>
    obtain ⟨_, q2⟩ := pAdd_new (most := most) hf (by omega)
    rw [q2] at h
    exact ref12_Add_new hlen s j hj hl hf h
  | some i =>
    obtain ⟨_, q2, _⟩ := pAdd_some (most := most) hf
    rw [q2] at h
    apply S_ref12_Add
    unfold F_ref12_Add
    refine s.allocK fun a1 w1 s => s.allocK fun a2 w2 s => s.allocK fun a3 w3 s => ?_
    have hlr := (Sp.rf2_ s (j + 3) hj).1.len
    rw [rulesOf_len] at hlr
    refine loop_by (fun x => x.1) T.length (fun n _ w => (∀ i, i < n → ∀ e', T[i]? = some e' → e'.1 ≠ e.1) ∧ Sp w0 (cel a3 [.slice none 0 0, .slice none 0 0] :: cel a2 (cells yapi_Rule e.1) :: cel a1 (cells yevergreenref12_Store m) :: Ω) w) rfl ⟨fun i hi => by omega, s⟩ ?_
    rintro n ⟨x, _⟩ w4 hnn hx ⟨hno, s⟩ _
    dsimp only at hx ⊢
    subst hx
    refine s.lds (x := m.1) 2 0 rfl rfl (gd_dec (fun hlt => s.drawK fun w5 s => s.lds (x := m.1) 2 0 rfl rfl ?_) (fun hge => ?_))
    · have hn' : n < T.length := by omega
      have he : T[n]? = some T[n] := List.getElem?_eq_getElem hn'
      refine (Sp.rf2_ s (j + 3) hj).1.idx rfl (x := T[n].1) (by rw [rulesOf, List.getElem?_map, he]; rfl) rfl fun q hq => ⟨_, hq, s.ld0 1 rfl rfl (rule_eql (gd_dec (fun e1 => ?_) (fun e1 => ?_)))⟩
      · refine s.ld0 (ty := yevergreenref12_Store) (x := m) 2 rfl rfl (arith_i64 (by omega) (by omega) (s.st0 0 rfl rfl rfl fun w6 s => s.ld0 (ty := yevergreenref12_Store) (x := m) 0 rfl rfl ?_))
        have := h m _ ((s.drop 3).dup j hj rfl)
        rw [lkR_at hno he e1] at hf
        cases hf
        exact this
      · refine arith_i64 (by omega) (by omega) (loop_nx hn' ⟨fun i hi e' he' => ?_, s⟩)
        by_cases c : i < n
        · exact hno i c e' he'
        · have : i = n := by omega
          subst this
          rw [he] at he'
          cases he'
          exact e1
    · exfalso
      have : lkR T e.1 = none := lkR_none fun e' he' => by
        obtain ⟨k, hk⟩ := List.getElem?_of_mem he'
        exact hno k (by have := (List.getElem?_eq_some_iff.1 hk).1; omega) e' hk
      rw [this] at hf; cases hf

end Go.Proofs.Ytnbkhhjklpoipaa

/- The specification's stores (evergreenref12): Pick, One, Build; the layer's Build. -/
set_option linter.unusedVariables false
set_option linter.unusedSimpArgs false
namespace Go.Proofs.Ytnbkhhjklpoipaa
open Go.Den

variable {w0 w : World} {Ω : List Ob} {most : Int} {T : List ET} {res : List Int} {i j : Nat} {m : yevergreenref12_Store.T} {p : Addr}

def pickN (n many : Int) : Int := if Int.tmod n many < 0 then Int.tmod n many + many else Int.tmod n many
theorem pickN_bound {n many : Int} (hm : 1 ≤ many) : 0 ≤ pickN n many ∧ pickN n many < many := by
  have h1 := Int.tmod_lt_of_pos n (show 0 < many by omega)
  have h2 := Int.lt_tmod_of_pos n (show 0 < many by omega)
  unfold pickN
  split <;> omega
theorem ref12_Pick_eq {n many : Int} (hm : 1 ≤ many) (hb : many ≤ 4611686018427387904) {K : Int → World → Prop} (h : K (pickN n many) w) : C_ref12_Pick n many K w := by
  apply S_ref12_Pick
  unfold F_ref12_Pick
  have h1 := Int.tmod_lt_of_pos n (show 0 < many by omega)
  have h2 := Int.lt_tmod_of_pos n (show 0 < many by omega)
  unfold pickN at h
  refine ⟨by omega, letZ_mk (JoinP.inl ?_)⟩
  refine gd_dec (fun c => arith_i64 (by omega) (by omega) fun _ => ?_) (fun c => fun _ => ?_)
  · rwa [if_pos c] at h
  · rwa [if_neg c] at h
def rsAt (res : List Int) (n : Int) : Int := res.getD (pickN n res.length).toNat 0
theorem rsAt_get (h : 1 ≤ res.length) (n : Int) : ∃ k : Nat, pickN n res.length = k ∧ res[k]? = some (rsAt res n) ∧ rsAt res n ∈ res := by
  have hb := pickN_bound (n := n) (many := res.length) (by omega)
  have hk : (pickN n res.length).toNat < res.length := by omega
  have e : rsAt res n = res[(pickN n res.length).toNat] := by unfold rsAt; rw [List.getD_eq_getElem?_getD, List.getElem?_eq_getElem hk]; rfl
  refine ⟨(pickN n res.length).toNat, by omega, ?_, ?_⟩
  · rw [e]; exact List.getElem?_eq_getElem hk
  · rw [e]; exact List.getElem_mem hk

abbrev MakeT := Int × Int × Int × Int × Int
def mKind (o : MakeT) : Int := o.1
def mLet (o : MakeT) : Int := o.2.1
def mLeft (o : MakeT) : Int := o.2.2.1
def mRight (o : MakeT) : Int := o.2.2.2.1
def mTimes (o : MakeT) : Int := o.2.2.2.2
structure MakeOK (o : MakeT) : Prop where
  b : 0 ≤ mLet o ∧ mLet o < 256
  k : -9223372036854775808 ≤ mTimes o ∧ mTimes o ≤ 9223372036854775807
theorem makeOK_of {o : MakeT} (h : wfT yevergreenref12_Make o) : MakeOK o := by
  obtain ⟨_, h2, _, _, h5⟩ := h
  exact ⟨u8_range h2, i64_range h5⟩
/-- what one Make makes -/
def mk1 (most : Int) (T : List ET) (res : List Int) (o : MakeT) : List ET × Int :=
  if pickN (mKind o) 4 = 0 then ((pLetter T most (mLet o)).1, (pLetter T most (mLet o)).2.1)
  else if pickN (mKind o) 4 = 3 then ((pPower T most (rsAt res (mLeft o)) (if mTimes o < 0 then 0 else mTimes o)).1, (pPower T most (rsAt res (mLeft o)) (if mTimes o < 0 then 0 else mTimes o)).2.1)
  else ((pPair T most (rsAt res (mLeft o)) (rsAt res (mRight o))).1, (pPair T most (rsAt res (mLeft o)) (rsAt res (mRight o))).2.1)
/-- what a list of Makes makes, from a store and results on -/
def bldF (most : Int) (T : List ET) (res : List Int) : List MakeT → List ET × List Int
  | [] => (T, res)
  | o :: ops => bldF most (mk1 most T res o).1 (res ++ [(mk1 most T res o).2]) ops
def bld (most : Int) (ops : List MakeT) : List ET × List Int := bldF most [] [0] ops
theorem bldF_append (ops ops' : List MakeT) : ∀ (T : List ET) (res : List Int), bldF most T res (ops ++ ops') = bldF most (bldF most T res ops).1 (bldF most T res ops).2 ops' := by
  induction ops with
  | nil => intro T res; rfl
  | cons o ops ih => intro T res; exact ih _ _
theorem bld_snoc (ops : List MakeT) (o : MakeT) : bld most (ops ++ [o]) = ((mk1 most (bld most ops).1 (bld most ops).2 o).1, (bld most ops).2 ++ [(mk1 most (bld most ops).1 (bld most ops).2 o).2]) := by
  unfold bld
  rw [bldF_append]; rfl
theorem bldF_pre (ops : List MakeT) : ∀ (T : List ET) (res : List Int), res <+: (bldF most T res ops).2 := by
  induction ops with
  | nil => intro T res; exact List.prefix_refl _
  | cons o ops ih => intro T res; exact (List.prefix_append _ _).trans (ih _ _)
theorem bld_pre (ops ops' : List MakeT) : (bld most ops).2 <+: (bld most (ops ++ ops')).2 := by
  unfold bld
  rw [bldF_append]
  exact bldF_pre _ _ _

def Facts (T : List ET) (x : List ET × Int) : Prop := T <+: x.1 ∧ x.1.length ≤ T.length + 1 ∧ 0 ≤ x.2 ∧ x.2 ≤ x.1.length
theorem Facts.same {x : Int} (h0 : 0 ≤ x) (h1 : x ≤ T.length) : Facts T (T, x) := ⟨List.prefix_refl _, Nat.le_succ _, h0, h1⟩
theorem pAdd_facts (T : List ET) (most : Int) (e : ET) : Facts T ((pAdd T most e).1, (pAdd T most e).2.1) := by
  cases hf : lkR T e.1 with
  | some i =>
    have := lkR_pos hf
    rw [(pAdd_some (most := most) hf).2.1]
    exact Facts.same (x := i) (by omega) this.2
  | none =>
    by_cases hm : most ≤ T.length
    · rw [(pAdd_full (most := most) hf hm).2]; exact Facts.same (x := 0) (Int.le_refl _) (by omega)
    · rw [(pAdd_new (most := most) hf hm).2]
      exact ⟨List.prefix_append _ _, by simp, by show (0 : Int) ≤ (T.length : Int) + 1; omega, by simp⟩
theorem pPower_facts {x k : Int} (hx : 0 ≤ x ∧ x ≤ T.length) : Facts T ((pPower T most x k).1, (pPower T most x k).2.1) := by
  unfold pPower
  have h0 : (0 : Int) ≤ T.length := by omega
  split
  · exact .same (Int.le_refl _) h0
  split
  · exact .same (Int.le_refl _) h0
  split
  · exact .same hx.1 hx.2
  split
  · exact .same (Int.le_refl _) h0
  · exact pAdd_facts _ _ _
theorem pPair_facts {x y : Int} (hx : 0 ≤ x ∧ x ≤ T.length) (hy : 0 ≤ y ∧ y ≤ T.length) : Facts T ((pPair T most x y).1, (pPair T most x y).2.1) := by
  unfold pPair
  have h0 : (0 : Int) ≤ T.length := by omega
  split
  · exact .same (Int.le_refl _) h0
  split
  · exact .same hy.1 hy.2
  split
  · exact .same hx.1 hx.2
  split
  · exact .same (Int.le_refl _) h0
  · exact pAdd_facts _ _ _
def KnownAll (T : List ET) (res : List Int) : Prop := ∀ y ∈ res, 0 ≤ y ∧ y ≤ T.length
theorem mk1_facts (h1 : 1 ≤ res.length) (hk : KnownAll T res) (o : MakeT) : Facts T (mk1 most T res o) := by
  obtain ⟨_, _, _, hl⟩ := rsAt_get h1 (mLeft o)
  obtain ⟨_, _, _, hr⟩ := rsAt_get h1 (mRight o)
  unfold mk1
  by_cases c0 : pickN (mKind o) 4 = 0
  · rw [if_pos c0]; exact pAdd_facts _ _ _
  rw [if_neg c0]
  by_cases c3 : pickN (mKind o) 4 = 3
  · rw [if_pos c3]; exact pPower_facts (hk _ hl)
  · rw [if_neg c3]; exact pPair_facts (hk _ hl) (hk _ hr)
theorem mk1_grow (g : Grow T) (hm : (T.length : Int) ≤ most) {o : MakeT} (ho : MakeOK o) : Grow (mk1 most T res o).1 ∧ ((mk1 most T res o).1.length : Int) ≤ most := by
  unfold mk1
  by_cases c0 : pickN (mKind o) 4 = 0
  · rw [if_pos c0]; exact pLetter_grow g hm ho.b
  rw [if_neg c0]
  by_cases c3 : pickN (mKind o) 4 = 3
  · rw [if_pos c3]; exact pPower_grow g hm
  · rw [if_neg c3]; exact pPair_grow g hm
/-- what holds of what was made -/
structure BldOK (most : Int) (T : List ET) (res : List Int) (n : Nat) : Prop where
  grow : Grow T
  cap : (T.length : Int) ≤ most
  len : T.length ≤ n
  cnt : res.length = n + 1
  known : KnownAll T res
theorem BldOK.step {n : Nat} (h : BldOK most T res n) {o : MakeT} (ho : MakeOK o) : BldOK most (mk1 most T res o).1 (res ++ [(mk1 most T res o).2]) (n + 1) := by
  have h1 := h.cnt
  obtain ⟨f1, f2, f3⟩ := mk1_facts (most := most) (by omega) h.known o
  have g := mk1_grow (res := res) h.grow h.cap ho
  have hl := h.len
  refine ⟨g.1, g.2, by omega, by simp; omega, fun y hy => ?_⟩
  rcases List.mem_append.1 hy with hy | hy
  · have := h.known y hy
    have := f1.length_le
    omega
  · rw [List.mem_singleton] at hy
    subst hy
    exact f3
theorem BldOK.init (hm : 0 ≤ most) : BldOK most [] [0] 0 := ⟨.nil, by simpa using hm, Nat.le_refl _, rfl, fun y hy => by
  rw [List.mem_singleton] at hy
  subst hy
  exact ⟨Int.le_refl _, Int.le_refl _⟩⟩
theorem bldF_ok : ∀ (ops : List MakeT) (T : List ET) (res : List Int) (n : Nat), BldOK most T res n → (∀ o ∈ ops, MakeOK o) → BldOK most (bldF most T res ops).1 (bldF most T res ops).2 (n + ops.length)
  | [], _, _, _, h, _ => h
  | o :: ops, T, res, n, h, ho => by
    have := bldF_ok ops _ _ _ (h.step (ho o (by simp))) fun o' ho' => ho o' (by simp [ho'])
    rw [List.length_cons, show n + (ops.length + 1) = n + 1 + ops.length by omega]
    exact this
theorem bld_ok (hm : 0 ≤ most) {ops : List MakeT} (ho : ∀ o ∈ ops, MakeOK o) : BldOK most (bld most ops).1 (bld most ops).2 ops.length := by
  have := bldF_ok ops _ _ _ (BldOK.init hm) ho
  rwa [Nat.zero_add] at this

theorem ref12_One_spec {o : MakeT} {rs : Sl} (ho : MakeOK o) (g : Grow T) (h1 : 1 ≤ res.length) (hN : res.length ≤ 1000000) (hk : KnownAll T res) (hl : T.length < 1048576) (hm : (T.length : Int) < most) (s : Sp w0 Ω w) (i : Nat) (hi : Ω[i]? = some (own (.int .i64) rs res)) (j : Nat) (hj : Ω[j]? = some (rf2 m T)) {K : yevergreenref12_Store.T × Int → World → Prop}
    (h : ∀ m' w', Sp w0 (rf2 m' (mk1 most T res o).1 :: Ω) w' → K (m', (mk1 most T res o).2) w') : C_ref12_One m o rs K w := by
  apply S_ref12_One
  unfold F_ref12_One
  have hlen := (s.view i hi).len
  obtain ⟨k1, e1, hg1, hm1⟩ := rsAt_get h1 (mLeft o)
  obtain ⟨k2, e2, hg2, hm2⟩ := rsAt_get h1 (mRight o)
  have bl := hk _ hm1
  have br := hk _ hm2
  have hkl : known T (rsAt res (mLeft o)) = true := decide_eq_true bl
  have hkr : known T (rsAt res (mRight o)) = true := decide_eq_true br
  have hp1 : mk1 most T res o = if pickN (mKind o) 4 = 0 then ((pLetter T most (mLet o)).1, (pLetter T most (mLet o)).2.1)
    else if pickN (mKind o) 4 = 3 then ((pPower T most (rsAt res (mLeft o)) (if mTimes o < 0 then 0 else mTimes o)).1, (pPower T most (rsAt res (mLeft o)) (if mTimes o < 0 then 0 else mTimes o)).2.1)
    else ((pPair T most (rsAt res (mLeft o)) (rsAt res (mRight o))).1, (pPair T most (rsAt res (mLeft o)) (rsAt res (mRight o))).2.1) := rfl
  refine s.allocK fun a1 w1 s => s.allocK fun a2 w2 s => s.allocK fun a3 w3 s => s.ldi (x := mLeft o) 1 2 rfl rfl (ref12_Pick_eq (by omega) (by omega) ?_)
  rw [show ((rs.len : Nat) : Int) = (res.length : Int) by omega]
  refine (s.view (i + 3) hi).idx e1 hg1 rfl fun q1 hq1 => ⟨_, hq1, s.ldi (x := mRight o) 1 3 rfl rfl (ref12_Pick_eq (by omega) (by omega) ?_)⟩
  refine (s.view (i + 3) hi).idx e2 hg2 rfl fun q2 hq2 => ⟨_, hq2, s.ldi (x := mKind o) 1 0 rfl rfl (ref12_Pick_eq (by decide) (by decide) ?_)⟩
  generalize rsAt res (mLeft o) = l at *
  generalize rsAt res (mRight o) = r at *
  have same : ∀ (x : Int), mk1 most T res o = (T, x) → ∀ w', Sp w0 (cel a3 (cells yevergreenref12_Store m) :: cel a2 (cells yevergreenref12_Make o) :: cel a1 (cells yevergreenref12_Store m) :: Ω) w' → K (m, x) w' := fun x e w' s => by
    rw [e] at h
    exact h _ _ ((s.drop 3).dup j hj rfl)
  refine gd_eq (fun c0 => ?_) (fun c0 => gd_eq (fun c3 => ?_) (fun c3 => ?_))
  · rw [if_pos c0] at hp1
    rw [hp1] at h
    refine s.ld0 (ty := yevergreenref12_Store) (x := m) 2 rfl rfl (s.ldi (x := mLet o) 1 1 rfl rfl (ref12_Add_spec (e := mkLetter (mLet o)) (wLetter_len _).symm s (j + 3) hj hl hm fun m' w4 s => s.st0 1 rfl rfl rfl fun w5 s => s.ld0 (ty := yevergreenref12_Store) (x := m') 1 rfl rfl ?_))
    exact h _ _ (s.pick [0] 4 rfl (by decide))
  · rw [if_neg c0, if_pos c3] at hp1
    obtain ⟨wx, dx0, dx1, px⟩ := g.at_ bl.1 bl.2
    have wxl := wx.len
    have hb : 0 ≤ 1152921504606846976 / (eAt T l).2.1.1 ∧ 1152921504606846976 / (eAt T l).2.1.1 ≤ 1152921504606846976 := ⟨Int.ediv_nonneg (by decide) (by omega), Int.ediv_le_self _ (by decide)⟩
    refine s.ld0 (ty := yevergreenref12_Store) (x := m) 2 rfl rfl (ref12_Length_spec s (j + 3) hj hkl (by omega) fun w4 s => ?_)
    have hk0 : known T l = false ∨ (if mTimes o < 0 then 0 else mTimes o) < 0 ↔ False := by
      rw [hkl]
      constructor
      · rintro (h | h)
        · cases h
        · split at h <;> omega
      · intro h; exact h.elim
    refine ⟨fun y v => y.1 = decide (l = 0 ∨ mTimes o ≤ 0 ∨ 1152921504606846976 < (eAt T l).2.1.1 * mTimes o) ∧ Sp w0 (cel a3 [.slice none 0 0, .slice none 0 0] :: cel a2 (cells yevergreenref12_Make o) :: cel a1 (cells yevergreenref12_Store m) :: Ω) v, ?_, ?_⟩
    · refine s.drawK fun w5 s => gd_eq (fun q1 => ⟨(decide_eq_true (Or.inl q1)).symm, s⟩) (fun q1 => s.ldi (x := mTimes o) 1 4 rfl rfl (gd_dec (fun q2 => ⟨(decide_eq_true (Or.inr (Or.inl q2))).symm, s⟩) (fun q2 => s.ldi (x := mTimes o) 1 4 rfl rfl ?_)))
      have hpos := px (by omega)
      have hd : Int.tdiv 1152921504606846976 (eAt T l).2.1.1 = 1152921504606846976 / (eAt T l).2.1.1 := Int.tdiv_eq_ediv_of_nonneg (by decide)
      have hiff : 1152921504606846976 / (eAt T l).2.1.1 < mTimes o ↔ 1152921504606846976 < (eAt T l).2.1.1 * mTimes o := by
        rw [Int.mul_comm]; exact Int.ediv_lt_iff_lt_mul (by omega)
      refine ⟨by omega, ?_⟩
      rw [hd]
      refine arith_i64 (by omega) (by omega) ⟨decide_eq_decide.2 ?_, s⟩
      rw [hiff]
      constructor
      · intro h; exact Or.inr (Or.inr h)
      · rintro (h | h | h)
        · exact absurd h q1
        · exact absurd h q2
        · exact h
    rintro ⟨y, _⟩ w5 ⟨hy, s⟩ _
    dsimp only at hy ⊢
    subst hy
    refine gd_dec (fun q => ?_) (fun q => ?_)
    · have hp : mk1 most T res o = (T, 0) := by
        rw [hp1]
        unfold pPower
        rw [if_neg (fun h => hk0.1 h)]
        by_cases q0 : (if mTimes o < 0 then (0 : Int) else mTimes o) = 0 ∨ l = 0
        · rw [if_pos q0]
        · have hl0 : l ≠ 0 := fun h => q0 (Or.inr h)
          have ht : 0 < mTimes o := by
            by_cases c : mTimes o < 0
            · exact absurd (Or.inl (if_pos c)) q0
            · rw [if_neg c] at q0
              have : mTimes o ≠ 0 := fun h => q0 (Or.inl h)
              omega
          have hgt : 1152921504606846976 < (eAt T l).2.1.1 * mTimes o := by
            rcases q with q | q | q
            · exact absurd q hl0
            · omega
            · exact q
          rw [if_neg q0, if_neg (show ¬ mTimes o < 0 by omega), if_neg (fun h => by rw [h, Int.mul_one] at hgt; omega), if_pos hgt]
      exact s.ld0 (ty := yevergreenref12_Store) (x := m) 2 rfl rfl (s.st0 0 rfl rfl rfl fun w6 s => s.ld0 (ty := yevergreenref12_Store) (x := m) 0 rfl rfl (same _ hp _ s))
    · have hl0 : l ≠ 0 := fun h => q (Or.inl h)
      have ht : 0 < mTimes o := by
        rcases Int.lt_or_le 0 (mTimes o) with h | h
        · exact h
        · exact absurd (Or.inr (Or.inl h)) q
      have hle : ¬ 1152921504606846976 < (eAt T l).2.1.1 * mTimes o := fun h => q (Or.inr (Or.inr h))
      have hpos := px (by omega)
      have hnn : 0 ≤ (eAt T l).2.1.1 * mTimes o := Int.mul_nonneg (by omega) (by omega)
      rw [if_neg (show ¬ mTimes o < 0 by omega)] at hp1 hk0
      refine s.ldi (x := mTimes o) 1 4 rfl rfl (gd_eq (fun q1 => ?_) (fun q1 => ?_))
      · have hp : mk1 most T res o = (T, l) := by
          rw [hp1]
          unfold pPower
          rw [if_neg (fun h => hk0.1 h), if_neg (by omega), if_pos q1]
        exact s.ld0 (ty := yevergreenref12_Store) (x := m) 2 rfl rfl (s.st0 0 rfl rfl rfl fun w6 s => s.ld0 (ty := yevergreenref12_Store) (x := m) 0 rfl rfl (same _ hp _ s))
      · have hp : mk1 most T res o = ((pAdd T most (mkPower T l (mTimes o))).1, (pAdd T most (mkPower T l (mTimes o))).2.1) := by
          rw [hp1]
          unfold pPower
          rw [if_neg (fun h => hk0.1 h), if_neg (by omega), if_neg q1, if_neg hle]
        rw [hp] at h
        refine s.ld0 (ty := yevergreenref12_Store) (x := m) 2 rfl rfl (s.ldi (x := mTimes o) 1 4 rfl rfl (s.ldi (x := mTimes o) 1 4 rfl rfl (arith_i64 (by omega) (by omega) ?_)))
        refine ref12_Add_spec (e := mkPower T l (mTimes o)) (wRep_len _ _).symm s (j + 3) hj hl hm fun m' w6 s => s.st0 1 rfl rfl rfl fun w7 s => s.ld0 (ty := yevergreenref12_Store) (x := m') 1 rfl rfl ?_
        exact h _ _ (s.pick [0] 4 rfl (by decide))
  · rw [if_neg c0, if_neg c3] at hp1
    have hu : ¬ (known T l = false ∨ known T r = false) := by rw [hkl, hkr]; simp
    refine gd_eq (fun q1 => ?_) (fun q1 => gd_eq (fun q2 => ?_) (fun q2 => ?_))
    · have hp : mk1 most T res o = (T, r) := by rw [hp1]; unfold pPair; rw [if_neg hu, if_pos q1]
      exact s.ld0 (ty := yevergreenref12_Store) (x := m) 2 rfl rfl (s.st0 0 rfl rfl rfl fun w6 s => s.ld0 (ty := yevergreenref12_Store) (x := m) 0 rfl rfl (same _ hp _ s))
    · have hp : mk1 most T res o = (T, l) := by rw [hp1]; unfold pPair; rw [if_neg hu, if_neg q1, if_pos q2]
      exact s.ld0 (ty := yevergreenref12_Store) (x := m) 2 rfl rfl (s.st0 0 rfl rfl rfl fun w6 s => s.ld0 (ty := yevergreenref12_Store) (x := m) 0 rfl rfl (same _ hp _ s))
    have wll := (g.at_ bl.1 bl.2).1.len
    have wrl := (g.at_ br.1 br.2).1.len
    refine s.drawK fun w4 s => s.ld0 (ty := yevergreenref12_Store) (x := m) 2 rfl rfl (s.ld0 (ty := yevergreenref12_Store) (x := m) 2 rfl rfl ?_)
    refine ref12_Length_spec s (j + 3) hj hkl (by omega) fun w5 s => ⟨s.at_ 2 rfl, ref12_Length_spec s (j + 3) hj hkr (by omega) fun w6 s => arith_i64 (by omega) (by omega) (gd_dec (fun q3 => ?_) (fun q3 => ?_))⟩
    · have hp : mk1 most T res o = (T, 0) := by rw [hp1]; unfold pPair; rw [if_neg hu, if_neg q1, if_neg q2, if_pos (by omega)]
      exact s.ld0 (ty := yevergreenref12_Store) (x := m) 2 rfl rfl (s.st0 0 rfl rfl rfl fun w6 s => s.ld0 (ty := yevergreenref12_Store) (x := m) 0 rfl rfl (same _ hp _ s))
    · have hp : mk1 most T res o = ((pAdd T most (mkPair T l r)).1, (pAdd T most (mkPair T l r)).2.1) := by rw [hp1]; unfold pPair; rw [if_neg hu, if_neg q1, if_neg q2, if_neg (by omega)]
      rw [hp] at h
      refine s.drawK fun w7 s => s.ld0 (ty := yevergreenref12_Store) (x := m) 2 rfl rfl (s.ld0 (ty := yevergreenref12_Store) (x := m) 2 rfl rfl (s.ld0 (ty := yevergreenref12_Store) (x := m) 2 rfl rfl ?_))
      refine ref12_Length_spec s (j + 3) hj hkl (by omega) fun w5 s => ⟨s.at_ 2 rfl, s.at_ 2 rfl, ref12_Length_spec s (j + 3) hj hkr (by omega) fun w6 s => ⟨s.at_ 2 rfl, arith_i64 (by omega) (by omega) ?_⟩⟩
      refine ref12_Add_spec (e := mkPair T l r) rfl s (j + 3) hj hl hm fun m' w6 s => s.st0 1 rfl rfl rfl fun w7 s => s.ld0 (ty := yevergreenref12_Store) (x := m') 1 rfl rfl ?_
      exact h _ _ (s.pick [0] 4 rfl (by decide))

end Go.Proofs.Ytnbkhhjklpoipaa

/- Build, of the specification (evergreenref12) and of the layer (evergreenlaw12): the walks. -/
set_option linter.unusedVariables false
set_option linter.unusedSimpArgs false
namespace Go.Proofs.Ytnbkhhjklpoipaa
open Go.Den

variable {w0 w : World} {Ω : List Ob} {most : Int} {T : List ET} {res : List Int} {i j : Nat} {m : yevergreenref12_Store.T} {p : Addr}

theorem take_snoc {α : Type} {l : List α} {n : Nat} (h : n < l.length) : l.take (n + 1) = l.take n ++ [l[n]] := by
  rw [List.take_add_one, List.getElem?_eq_getElem h]; rfl
theorem bld_take {ops : List MakeT} {n : Nat} (h : n < ops.length) : bld most (ops.take (n + 1)) = ((mk1 most (bld most (ops.take n)).1 (bld most (ops.take n)).2 ops[n]).1, (bld most (ops.take n)).2 ++ [(mk1 most (bld most (ops.take n)).1 (bld most (ops.take n)).2 ops[n]).2]) := by
  rw [take_snoc h, bld_snoc]
theorem bld_take_ok (hm : 0 ≤ most) {ops : List MakeT} (ho : ∀ o ∈ ops, MakeOK o) {n : Nat} (hn : n ≤ ops.length) : BldOK most (bld most (ops.take n)).1 (bld most (ops.take n)).2 n := by
  have := bld_ok (most := most) hm (ops := ops.take n) fun o h => ho o (List.mem_of_mem_take h)
  rwa [List.length_take, Nat.min_eq_left hn] at this
theorem bld_at {ops : List MakeT} (hm : 0 ≤ most) (ho : ∀ o ∈ ops, MakeOK o) {n : Nat} (h : n < ops.length) : (bld most ops).2[n + 1]? = some (mk1 most (bld most (ops.take n)).1 (bld most (ops.take n)).2 ops[n]).2 := by
  have hp := bld_pre (most := most) (ops.take (n + 1)) (ops.drop (n + 1))
  rw [List.take_append_drop] at hp
  obtain ⟨s, hs⟩ := hp
  have hc := (bld_take_ok (most := most) hm ho (n := n) (by omega)).cnt
  rw [← hs, bld_take h]
  dsimp only
  rw [List.getElem?_append_left (by simp; omega), List.getElem?_append_right (by omega), hc]
  simp

theorem ref12_Build_spec {sl : Sl} {ops : List MakeT} (s : Sp w0 Ω w) (hv : View yevergreenref12_Make w0 sl ops) (ho : ∀ o ∈ ops, MakeOK o) (hN : ops.length ≤ 900000) (hm : (ops.length : Int) < most) {K : yevergreenref12_Store.T × Sl → World → Prop}
    (h : ∀ m rs w', Sp w0 (own (.int .i64) rs (bld most ops).2 :: rf2 m (bld most ops).1 :: Ω) w' → K (m, rs) w') : C_ref12_Build sl K w := by
  apply S_ref12_Build
  unfold F_ref12_Build
  have hlen := hv.len
  refine s.allocK fun a1 w1 s => s.allocK fun a2 w2 s => s.st0 0 rfl rfl rfl fun w3 s => s.allocK fun a3 w4 s => ?_
  refine loop_by (fun x => x.2.1) ops.length (fun n x w => ∃ m, Sp w0 (own (.int .i64) x.1 (bld most (ops.take n)).2 :: rf2 m (bld most (ops.take n)).1 :: cel a2 (cells yevergreenref12_Store m) :: cel a1 [.slice none 0 0, .slice none 0 0] :: Ω) w) rfl ⟨((⟨none, 0, 0⟩ : Sl), (⟨none, 0, 0⟩ : Sl)), ?_⟩ ?_
  · have s' := Sp.rf20 (s.lit (ty := .int .i64) 0 rfl [(0 : Int)] 1 rfl rfl)
    exact s'.pick [1, 0] 2 rfl (by decide)
  rintro n ⟨rs, x, _⟩ w5 hn hx ⟨m, s⟩ _
  dsimp only at hx s ⊢
  subst hx
  refine gd_dec (fun hlt => ?_) (fun hge => ?_)
  rotate_left
  · have e : n = ops.length := by omega
    subst e
    rw [List.take_length] at s
    exact s.ld0 (ty := yevergreenref12_Store) (x := m) 2 rfl rfl (s.st0 3 rfl rfl rfl fun w6 s => s.ld0 (ty := yevergreenref12_Store) (x := m) 3 rfl rfl (h m rs _ (s.pick [0, 1] 4 rfl (by decide))))
  have hn' : n < ops.length := by omega
  have hget := List.getElem?_eq_getElem hn'
  have hok := ho _ (List.getElem_mem hn')
  have hb := bld_take_ok (most := most) (by omega) ho hn
  have hnext := bld_take (most := most) hn'
  generalize ops[n] = o at hget hok hnext
  generalize (bld most (ops.take n)).1 = T at *
  generalize (bld most (ops.take n)).2 = res at *
  have hc := hb.cnt
  have hT := hb.len
  refine ⟨fun x w => ∃ b m', x.1 = ⟨b, 0, none⟩ ∧ x.2.1 = (mk1 most T res o).2 ∧ Sp w0 (cel b (cells yevergreenref12_Store m') :: rf2 m' (mk1 most T res o).1 :: own (.int .i64) rs res :: cel a2 (cells yevergreenref12_Store m) :: cel a1 [.slice none 0 0, .slice none 0 0] :: Ω) w, ?_, ?_⟩
  · refine s.drawK fun w6 s => s.ld0 (ty := yevergreenref12_Store) (x := m) 2 rfl rfl ((hv.ext s.ext).idx2 rfl hget rfl fun q hq => ⟨o, hq _ (hv.ext s.ext), ?_, ?_⟩)
    · refine ref12_One_spec hok hb.grow (by omega) (by omega) hb.known (by omega) (by omega) s 0 rfl 1 rfl fun m' w7 s => s.allocK fun b w8 s => s.st0 0 rfl rfl rfl fun w9 s => ⟨b, m', rfl, rfl, s.pick [0, 1, 2, 4, 5] 6 rfl (by decide)⟩
    · refine s.allocK fun b w7 s => ⟨hq _ (hv.ext s.ext), s.at_ 3 rfl, ref12_One_spec hok hb.grow (by omega) (by omega) hb.known (by omega) (by omega) s 1 rfl 2 rfl fun m' w7 s => s.st0 1 rfl rfl rfl fun w9 s => ⟨b, m', rfl, rfl, s.pick [1, 0, 2, 4, 5] 6 rfl (by decide)⟩⟩
  rintro ⟨_, id, _⟩ w6 ⟨b, m', hb1, hb2, s⟩ _
  dsimp only at hb1 hb2 ⊢
  subst hb1 hb2
  refine s.ld0 (ty := yevergreenref12_Store) (x := m') 0 rfl rfl (s.st0 3 rfl rfl rfl fun w7 s => s.allocK fun a16 w8 s => s.app 3 rfl ((s.lit (ty := .int .i64) 0 rfl [(mk1 most T res o).2] 1 rfl rfl).view 0 rfl) (by simp only [List.length_cons, List.length_nil]; omega) fun s17 w9 s => arith_i64 (by omega) (by omega) (loop_nx hn' ⟨m', ?_⟩))
  rw [hnext]
  exact s.pick [3, 2, 4, 5] 6 rfl (by decide)

theorem law12_Build_spec {sl : Sl} {ops : List MakeT} (s : Sp w0 Ω w) (i : Nat) (hi : Ω[i]? = some (sto p most [])) (hv : View yevergreenref12_Make w0 sl ops) (ho : ∀ o ∈ ops, MakeOK o) (hN : ops.length ≤ 900000) (hm : (ops.length : Int) < most) {K : Sl × Bool → World → Prop}
    (h : ∀ rs w', Sp w0 (own (.int .i64) rs (bld most ops).2 :: Ω.set i (sto p most (bld most ops).1)) w' → K (rs, true) w') : C_law12_Build (some p) sl K w := by
  apply S_law12_Build
  unfold F_law12_Build
  have hlen := hv.len
  refine ref12_Build_spec s hv ho hN hm fun m ws w1 s => s.allocK fun a2 w2 s => s.st0 0 rfl rfl rfl fun w3 s => s.allocK fun a3 w4 s => ?_
  have hli : i < Ω.length := (List.getElem?_eq_some_iff.1 hi).1
  refine loop_by (fun x => x.2.1) ops.length (fun n x w => Sp w0 (own (.int .i64) x.1 (bld most (ops.take n)).2 :: own (.int .i64) ws (bld most ops).2 :: Ω.set i (sto p most (bld most (ops.take n)).1)) w) rfl ?_ ?_
  · have hs : Ω.set i (sto p most (bld most (ops.take 0)).1) = Ω := setSame hi
    dsimp only
    rw [hs]
    exact (s.lit (ty := .int .i64) 0 rfl [(0 : Int)] 1 rfl rfl).pick [0, 2] 4 rfl (by decide)
  rintro n ⟨rs, x, _⟩ w5 hn hx s _
  dsimp only at hx s ⊢
  subst hx
  refine gd_dec (fun hlt => ?_) (fun hge => ?_)
  rotate_left
  · have e : n = ops.length := by omega
    subst e
    rw [List.take_length] at s
    exact h rs _ (s.pick [0] 2 rfl (by decide))
  have hn' : n < ops.length := by omega
  have hget := List.getElem?_eq_getElem hn'
  have hok := ho _ (List.getElem_mem hn')
  have hb := bld_take_ok (most := most) (by omega) ho hn
  have hnext := bld_take (most := most) hn'
  have hat := bld_at (most := most) (by omega) ho hn'
  generalize ops[n] = o at hget hok hnext hat
  generalize (bld most (ops.take n)).1 = T at *
  generalize (bld most (ops.take n)).2 = res at *
  have hc := hb.cnt
  have hT := hb.len
  have hrl := (s.view 0 rfl).len
  have hi' : ∀ X, (Ω.set i X)[i]? = some X := fun X => by rw [List.getElem?_set]; simp [hli]
  obtain ⟨k1, e1, hg1, hm1⟩ := rsAt_get (show 1 ≤ res.length by omega) (mLeft o)
  obtain ⟨k2, e2, hg2, hm2⟩ := rsAt_get (show 1 ≤ res.length by omega) (mRight o)
  have hp1 : mk1 most T res o = if pickN (mKind o) 4 = 0 then ((pLetter T most (mLet o)).1, (pLetter T most (mLet o)).2.1)
    else if pickN (mKind o) 4 = 3 then ((pPower T most (rsAt res (mLeft o)) (if mTimes o < 0 then 0 else mTimes o)).1, (pPower T most (rsAt res (mLeft o)) (if mTimes o < 0 then 0 else mTimes o)).2.1)
    else ((pPair T most (rsAt res (mLeft o)) (rsAt res (mRight o))).1, (pPair T most (rsAt res (mLeft o)) (rsAt res (mRight o))).2.1) := rfl
  refine (hv.ext s.ext).idx rfl hget rfl fun q hq => ⟨o, hq, s.allocK fun a8 w6 s => s.st0 0 rfl rfl rfl fun w7 s => s.drawK fun w8 s => s.ldi (x := mLeft o) 0 2 rfl rfl (s.ldi (x := mRight o) 0 3 rfl rfl (ref12_Pick_eq (by omega) (by omega) ⟨s.still 0 3 rfl rfl, ?_⟩))⟩
  rw [show ((rs.len : Nat) : Int) = (res.length : Int) by omega]
  refine (s.view 1 rfl).idx2 e1 hg1 rfl fun q1 hq1 => ⟨_, hq1 _ (s.view 1 rfl), ref12_Pick_eq (by omega) (by omega) ⟨hq1 _ (s.view 1 rfl), ?_⟩⟩
  refine (s.view 1 rfl).idx e2 hg2 rfl fun q2 hq2 => ⟨_, hq2, ?_⟩
  generalize rsAt res (mLeft o) = l at *
  generalize rsAt res (mRight o) = r at *
  refine ⟨fun x w => x.1 = (mk1 most T res o).2 ∧ Sp w0 (cel a8 (cells yevergreenref12_Make o) :: own (.int .i64) rs res :: own (.int .i64) ws (bld most ops).2 :: Ω.set i (sto p most (mk1 most T res o).1)) w, ?_, ?_⟩
  · refine s.ldi (x := mKind o) 0 0 rfl rfl (ref12_Pick_eq (by decide) (by decide) ?_)
    have hss : ∀ X Y : Ob, (Ω.set i X).set i Y = Ω.set i Y := fun X Y => List.set_set ..
    refine gd_eq (fun c0 => ?_) (fun c0 => gd_eq (fun c3 => ?_) (fun c3 => ?_))
    · rw [if_pos c0] at hp1
      rw [hp1]
      refine s.ldi (x := mLet o) 0 1 rfl rfl (intern_Letter_sp s (i + 3) (hi' _) hok.b fun w9 s => ⟨rfl, ?_⟩)
      rw [← hss (sto p most T)]
      exact s
    · rw [if_neg c0, if_pos c3] at hp1
      rw [hp1]
      refine s.ldi (x := mTimes o) 0 4 rfl rfl (intern_Power_sp s (i + 3) (hi' _) (by have := hok.k; split <;> omega) fun w9 s => ⟨rfl, ?_⟩)
      rw [← hss (sto p most T)]
      exact s
    · rw [if_neg c0, if_neg c3] at hp1
      rw [hp1]
      refine intern_Pair_sp s (i + 3) (hi' _) fun w9 s => ⟨rfl, ?_⟩
      rw [← hss (sto p most T)]
      exact s
  rintro ⟨id, _⟩ w9 ⟨hid, s⟩ _
  dsimp only at hid ⊢
  subst hid
  refine arith_i64 (by omega) (by omega) ((s.view 2 rfl).idx (n := n + 1) (by omega) hat rfl fun q3 hq3 => ⟨_, hq3, gd_f (by simp) (s.allocK fun a29 w10 s => s.app 2 rfl ((s.lit (ty := .int .i64) 0 rfl [(mk1 most T res o).2] 1 rfl rfl).view 0 rfl) (by simp only [List.length_cons, List.length_nil]; omega) fun s30 w11 s => arith_i64 (by omega) (by omega) (loop_nx hn' ?_))⟩)
  rw [hnext]
  exact s.drop 2

end Go.Proofs.Ytnbkhhjklpoipaa

/- Maps with 64-bit keys: their entries' stamps; updates, deletions, ranges. Generic: no statement, no project text. -/
set_option linter.unusedVariables false
set_option linter.unusedSimpArgs false
namespace Go.Den

variable {P : Program} {w0 w : World} {L : List Ob} {vt : Ty}

/-! ### Lists of pairs -/
section
variable {α : Type}
def mupd : List (Int × α) → Int → α → List (Int × α)
  | [], x, v => [(x, v)]
  | p :: m, x, v => if p.1 = x then (x, v) :: m else p :: mupd m x v
def mdel : List (Int × α) → Int → List (Int × α)
  | [], _ => []
  | p :: m, x => if p.1 = x then m else p :: mdel m x
/-- what is found under a key -/
def at? : List (Int × α) → Int → Option α
  | [], _ => none
  | p :: m, x => if p.1 = x then some p.2 else at? m x
theorem at_mupd : ∀ (m : List (Int × α)) (x : Int) (v : α) (y : Int), at? (mupd m x v) y = if x = y then some v else at? m y
  | [], x, v, y => rfl
  | p :: m, x, v, y => by
    unfold mupd
    by_cases h : p.1 = x
    · rw [if_pos h]
      simp only [at?]
      by_cases hy : x = y
      · rw [if_pos hy, if_pos hy]
      · rw [if_neg hy, if_neg hy, if_neg (by omega)]
    · rw [if_neg h]
      simp only [at?]
      rw [at_mupd m x v y]
      by_cases hy : x = y
      · rw [if_pos hy, if_neg (by omega)]
        rw [if_pos hy]
      · rw [if_neg hy, if_neg hy]
theorem at_none : ∀ {m : List (Int × α)} {x : Int}, at? m x = none ↔ x ∉ m.map (·.1)
  | [], x => by simp [at?]
  | p :: m, x => by
    simp only [at?, List.map_cons, List.mem_cons]
    by_cases h : p.1 = x
    · rw [if_pos h]; simp [h]
    · rw [if_neg h, at_none]
      simp [Ne.symm h]
theorem at_mdel : ∀ {m : List (Int × α)} (x y : Int), (m.map (·.1)).Nodup → at? (mdel m x) y = if x = y then none else at? m y
  | [], x, y, _ => by simp [mdel, at?]
  | p :: m, x, y, hn => by
    rw [List.map_cons, List.nodup_cons] at hn
    unfold mdel
    by_cases h : p.1 = x
    · rw [if_pos h]
      by_cases hy : x = y
      · rw [if_pos hy, ← hy, ← h]
        exact at_none.2 hn.1
      · rw [if_neg hy]
        simp only [at?]
        rw [if_neg (by omega)]
    · rw [if_neg h]
      simp only [at?]
      rw [at_mdel x y hn.2]
      by_cases hy : x = y
      · rw [if_pos hy, if_neg (by omega), if_pos hy]
      · rw [if_neg hy, if_neg hy]
theorem keys_mupd : ∀ (m : List (Int × α)) (x : Int) (v : α) (y : Int), y ∈ (mupd m x v).map (·.1) ↔ y = x ∨ y ∈ m.map (·.1)
  | [], x, v, y => by simp [mupd]
  | p :: m, x, v, y => by
    unfold mupd
    by_cases h : p.1 = x
    · rw [if_pos h]; simp [h]
    · rw [if_neg h]
      have := keys_mupd m x v y
      simp only [List.map_cons, List.mem_cons, this]
      constructor
      · rintro (h | h | h)
        · exact Or.inr (Or.inl h)
        · exact Or.inl h
        · exact Or.inr (Or.inr h)
      · rintro (h | h | h)
        · exact Or.inr (Or.inl h)
        · exact Or.inl h
        · exact Or.inr (Or.inr h)
theorem nodup_mupd : ∀ (m : List (Int × α)) (x : Int) (v : α), (m.map (·.1)).Nodup → ((mupd m x v).map (·.1)).Nodup
  | [], x, v, _ => by simp [mupd]
  | p :: m, x, v, hn => by
    rw [List.map_cons, List.nodup_cons] at hn
    unfold mupd
    by_cases h : p.1 = x
    · rw [if_pos h, List.map_cons, List.nodup_cons]
      exact ⟨h ▸ hn.1, hn.2⟩
    · rw [if_neg h, List.map_cons, List.nodup_cons]
      refine ⟨fun hm => ?_, nodup_mupd m x v hn.2⟩
      rcases (keys_mupd m x v p.1).1 hm with h' | h'
      · exact h h'
      · exact hn.1 h'
theorem keys_mdel : ∀ {m : List (Int × α)} (x y : Int), (m.map (·.1)).Nodup → (y ∈ (mdel m x).map (·.1) ↔ y ≠ x ∧ y ∈ m.map (·.1)) := fun {m} x y hn => by
  have h1 := at_mdel x y hn
  have h2 := at_none (m := mdel m x) (x := y)
  have h3 := at_none (m := m) (x := y)
  by_cases hy : x = y
  · rw [if_pos hy] at h1
    have := h2.1 h1
    exact ⟨fun h => absurd h this, fun h => absurd hy.symm h.1⟩
  · rw [if_neg hy] at h1
    rw [h1] at h2
    constructor
    · intro h
      refine ⟨Ne.symm hy, ?_⟩
      apply Classical.byContradiction
      intro hc
      exact h2.1 (h3.2 hc) h
    · intro h
      apply Classical.byContradiction
      intro hc
      exact h3.1 (h2.2 hc) h.2
theorem mdel_sub : ∀ (m : List (Int × α)) (x : Int), (mdel m x).Sublist m
  | [], x => List.Sublist.slnil
  | p :: m, x => by
    unfold mdel
    by_cases h : p.1 = x
    · rw [if_pos h]; exact List.sublist_cons_self _ _
    · rw [if_neg h]; exact (mdel_sub m x).cons_cons _
theorem nodup_mdel (m : List (Int × α)) (x : Int) (hn : (m.map (·.1)).Nodup) : ((mdel m x).map (·.1)).Nodup := List.Nodup.sublist ((mdel_sub m x).map _) hn
end
theorem lk_at : ∀ (m : List ((Ty.int .i64).T × vt.T)) (x : Int), lk (kt := .int .i64) (vt := vt) m x = at? m x
  | [], x => rfl
  | p :: m, x => by
    have ih := lk_at m x
    unfold lk at ih ⊢
    rw [List.find?_cons]
    simp only [at?]
    by_cases h : p.1 = x
    · have : beqT (.int .i64) x p.1 = true := (beqT_iff (.int .i64) rfl _ _).2 h.symm
      rw [this, if_pos h]; rfl
    · have : beqT (.int .i64) x p.1 = false := by
        cases e : beqT (.int .i64) x p.1
        · rfl
        · exact absurd ((beqT_iff (.int .i64) rfl _ _).1 e).symm h
      rw [this, if_neg h]; exact ih

/-! ### Maps in memory -/
abbrev PairOf (vt : Ty) (m : List (Int × vt.T)) : List (Value × Value) := m.map fun p => (Value.int .i64 p.1, val vt p.2)
def MapC (vt : Ty) (w : World) (r : Nat) (m : List (Int × vt.T)) : Prop :=
  ∃ (arr : Array MapEntry) (clock : Nat), w.heap[r]? = some (.map arr clock) ∧ arr.toList.map (fun e => (e.key, e.val)) = PairOf vt m ∧ (arr.toList.map (·.born)).Nodup ∧ (∀ e ∈ arr.toList, e.born < clock) ∧ (m.map (·.1)).Nodup
theorem MapC.is {r : Nat} {m : List (Int × vt.T)} (h : MapC vt w r m) : MapIs (.int .i64) vt w r m := by
  obtain ⟨arr, clock, h1, h2, _⟩ := h
  exact ⟨arr, clock, h1, h2⟩
theorem MapC.nodup {r : Nat} {m : List (Int × vt.T)} (h : MapC vt w r m) : (m.map (·.1)).Nodup := by
  obtain ⟨arr, clock, _, _, _, _, h⟩ := h
  exact h
theorem MapC.lt {r : Nat} {m : List (Int × vt.T)} (h : MapC vt w r m) : r < w.heap.size := h.is.lt
theorem MapC.fr {F : Nat → Prop} {w' : World} {r : Nat} {m : List (Int × vt.T)} (h : MapC vt w r m) (f : Fr F w w') (hF : ¬ F r) : MapC vt w' r m := by
  have hl := h.lt
  obtain ⟨arr, clock, h1, h2⟩ := h
  exact ⟨arr, clock, by rw [f.same r hl hF]; exact h1, h2⟩
def mc (vt : Ty) (r : Nat) (m : List (Int × vt.T)) : Ob := ⟨false, fun B w => MapC vt w r m ∧ B r, fun h f hB => ⟨h.1.fr f (hB _ h.2), h.2⟩⟩
theorem Sp.mc_ {r : Nat} {m : List (Int × vt.T)} (s : Sp w0 L w) (i : Nat) (h : L[i]? = some (mc vt r m)) : MapC vt w r m := by
  obtain ⟨B, h, _⟩ := s.get i h
  exact h.1
theorem Sp.allocC {K : Addr → World → Prop} (s : Sp w0 L w) (vt : Ty) (hK : ∀ r w', Sp w0 (mc vt r [] :: L) w' → K ⟨r, 0, none⟩ w') : Go.Den.allocK (.map #[] 0) w K := by
  refine allocK_mk (hK _ _ (s.push (B := fun b => b = w.heap.size) (alloc_ext w _) ⟨⟨#[], 0, alloc_new w _, rfl, List.nodup_nil, fun e h => by simp at h, List.nodup_nil⟩, rfl⟩ ?_))
  rintro b rfl
  exact ⟨Nat.le_refl _, by simp⟩
theorem MapC.get {d : Nat} {t k e : TypeId} (hd : d ≤ 10000) (hu : P.underlying t = some (.map k e)) (hk : eqOK P d k (.int .i64) = true) {z : vt.T} (hz : zeroOf P e = some (val vt z))
    {r : Nat} {m : List (Int × vt.T)} (h : MapC vt w r m) (x : Int) : Lk1 P t vt (.map (some r)) (.int .i64 x) ((at? m x).getD z) w := by
  have := lk1_run hd hu hk (by simp) hz h.is x
  rwa [lk_at] at this
theorem MapC.len {r : Nat} {m : List (Int × vt.T)} (h : MapC vt w r m) : mapLen w (some r) m.length := by
  obtain ⟨arr, clock, h1, h2, _⟩ := h
  have := congrArg List.length h2
  simp only [List.length_map, Array.length_toList] at this
  exact ⟨arr, clock, h1, this.symm⟩

theorem mupd_fnd (x : Int) (v : vt.T) : ∀ (ls : List MapEntry) (m : List (Int × vt.T)) (j : Nat), ls.map (fun e => (e.key, e.val)) = PairOf vt m →
    (fnd (.int .i64) x ls (m.map (·.1)) j = none ∧ mupd m x v = m ++ [(x, v)] ∧ mdel m x = m) ∨
    ∃ (i : Nat) (u : Value) (e : MapEntry), fnd (.int .i64) x ls (m.map (·.1)) j = some (j + i, u) ∧ ls[i]? = some e ∧ e.key = .int .i64 x ∧
      (ls.modify i fun e => { e with key := .int .i64 x, val := val vt v }).map (fun e => (e.key, e.val)) = PairOf vt (mupd m x v) ∧ (ls.eraseIdx i).map (fun e => (e.key, e.val)) = PairOf vt (mdel m x)
  | [], [], j, _ => Or.inl ⟨rfl, rfl, rfl⟩
  | [], _ :: _, j, h => by simp at h
  | _ :: _, [], j, h => by simp at h
  | e :: ls, p :: m, j, h => by
    simp only [List.map_cons, List.cons.injEq, Prod.mk.injEq] at h
    by_cases hp : p.1 = x
    · right
      have hb : beqT (.int .i64) x p.1 = true := (beqT_iff (.int .i64) rfl _ _).2 hp.symm
      refine ⟨0, e.val, e, ?_, rfl, by rw [h.1.1, hp], ?_, ?_⟩
      · simp only [List.map_cons, fnd]
        rw [hb]; rfl
      · simp only [mupd, if_pos hp, List.modify_zero_cons, List.map_cons]
        rw [h.2]
      · simp only [mdel, if_pos hp, List.eraseIdx_zero, List.tail_cons]
        exact h.2
    · have hb : beqT (.int .i64) x p.1 = false := by
        cases e : beqT (.int .i64) x p.1
        · rfl
        · exact absurd ((beqT_iff (.int .i64) rfl _ _).1 e).symm hp
      rcases mupd_fnd x v ls m (j + 1) h.2 with ⟨h1, h2, h3⟩ | ⟨i, u, e', h1, h2, h3, h4, h5⟩
      · left
        refine ⟨?_, by simp only [mupd, if_neg hp, h2, List.cons_append], by simp only [mdel, if_neg hp, h3]⟩
        simp only [List.map_cons, fnd]
        rw [hb]; exact h1
      · right
        refine ⟨i + 1, u, e', ?_, by rw [List.getElem?_cons_succ]; exact h2, h3, ?_, ?_⟩
        · simp only [List.map_cons, fnd]
          rw [hb]
          show fnd (.int .i64) x ls (m.map (·.1)) (j + 1) = _
          rw [h1, show j + 1 + i = j + (i + 1) by omega]
        · simp only [mupd, if_neg hp, List.modify_succ_cons, List.map_cons]
          rw [h4, h.1.1, h.1.2]
        · simp only [mdel, if_neg hp, List.eraseIdx_cons_succ, List.map_cons]
          rw [h5, h.1.1, h.1.2]
theorem born_modify (f : MapEntry → MapEntry) (hf : ∀ e, (f e).born = e.born) : ∀ (ls : List MapEntry) (i : Nat), (ls.modify i f).map (·.born) = ls.map (·.born)
  | [], i => by cases i <;> rfl
  | e :: ls, 0 => by simp [hf]
  | e :: ls, i + 1 => by simp [born_modify f hf ls i]

theorem Sp.upC {d : Nat} {t k e : TypeId} {r : Nat} {m : List (Int × vt.T)} {K : World → Prop} (s : Sp w0 L w) (i : Nat) (h : L[i]? = some (mc vt r m)) (hd : d ≤ 10000) (hu : P.underlying t = some (.map k e)) (hk : eqOK P d k (.int .i64) = true)
    (x : Int) (v : vt.T) (hK : ∀ w', Sp w0 (L.set i (mc vt r (mupd m x v))) w' → K w') : runU P (Instr.mapUpdate t (.map (some r)) (.int .i64 x) (val vt v)) w K := by
  obtain ⟨B, ⟨mm, hB⟩, hlt, back⟩ := s.open i h rfl
  have hr := mm.lt
  obtain ⟨arr, clock, h1, h2, h3, h4, h5⟩ := mm
  have hg : (getObj r).run P w = .ok (.map arr clock) w := MapKept.run_getObj_map h1
  have hf := findKey_run (w := w) hd hk (by simp) x arr.toList (m.map (·.1)) (keys_of (kt := .int .i64) (vt := vt) h2)
  have hck : (Instr.checkKey false 10000 k (val (.int .i64) x)).run P w = .ok () w := checkKey_run d 10000 hd k (.int .i64) hk x false w
  have fin : ∀ (arr' : Array MapEntry) (clock' : Nat), arr'.toList.map (fun e => (e.key, e.val)) = PairOf vt (mupd m x v) → (arr'.toList.map (·.born)).Nodup → (∀ e ∈ arr'.toList, e.born < clock') → K { w with heap := w.heap.setIfInBounds r (.map arr' clock') } := fun arr' clock' q1 q2 q3 => by
    refine hK _ (back _ B _ ⟨⟨arr', clock', by simp [hr], q1, q2, q3, nodup_mupd m x v h5⟩, hB⟩ ⟨by simp, fun b _ hb => ?_, rfl, rfl, rfl⟩ (fun _ h => Or.inl h) fun b hb => by simpa using (hlt b hb).2)
    have : r ≠ b := fun e => hb (e ▸ hB)
    simp [Array.getElem?_setIfInBounds, this]
  rcases mupd_fnd x v arr.toList m 0 h2 with ⟨q1, q2, _⟩ | ⟨j, u, e', q1, q2, q3, q4, _⟩
  · refine ⟨_, ?_, fin (arr.push { key := .int .i64 x, val := val vt v, born := clock }) (clock + 1) ?_ ?_ ?_⟩
    · show (Instr.mapUpdate t (.map (some r)) (val (.int .i64) x) (val vt v)).run P w = _
      unfold Instr.mapUpdate
      simp only [Sem.run_bind, run_underlying hu, Result.andThen_ok, hg, hck, hf, q1]
      simp [MapKept.run_setObj_map _ h1, val]
    · rw [Array.toList_push, List.map_append, h2, q2]; simp
    · rw [Array.toList_push, List.map_append, List.nodup_append]
      refine ⟨h3, by simp, fun a ha b hb => ?_⟩
      simp at hb
      subst hb
      obtain ⟨e, he, rfl⟩ := List.mem_map.1 ha
      have := h4 e he
      omega
    · intro e he
      rw [Array.toList_push] at he
      rcases List.mem_append.1 he with he | he
      · have := h4 e he; omega
      · simp at he; subst he; exact Nat.lt_succ_self _
  · have harr : arr[j]? = some e' := by rw [← Array.getElem?_toList]; exact q2
    refine ⟨_, ?_, fin (arr.modify j fun e => { e with key := .int .i64 x, val := val vt v }) clock ?_ ?_ ?_⟩
    · show (Instr.mapUpdate t (.map (some r)) (val (.int .i64) x) (val vt v)).run P w = _
      unfold Instr.mapUpdate
      simp only [Sem.run_bind, run_underlying hu, Result.andThen_ok, hg, hck, hf, q1]
      simp [MapKept.run_setObj_map _ h1, val, harr, q3, Instr.keyThatStays, Instr.sameBits]
    · rw [Array.toList_modify, q4]
    · rw [Array.toList_modify, born_modify (fun e => { e with key := .int .i64 x, val := val vt v }) (fun _ => rfl)]
      exact h3
    · intro e he
      rw [Array.toList_modify] at he
      have : e.born ∈ (arr.toList.modify j fun e => { e with key := .int .i64 x, val := val vt v }).map (·.born) := List.mem_map.2 ⟨e, he, rfl⟩
      rw [born_modify (fun e => { e with key := .int .i64 x, val := val vt v }) (fun _ => rfl)] at this
      obtain ⟨e2, he2, hb2⟩ := List.mem_map.1 this
      have := h4 e2 he2
      omega
theorem Sp.delC {d : Nat} {t k e : TypeId} {r : Nat} {m : List (Int × vt.T)} {ty : TypeId} {K : Unit → World → Prop} {t2 : TypeId} (v : vt.T) (s : Sp w0 L w) (i : Nat) (h : L[i]? = some (mc vt r m)) (hd : d ≤ 10000) (hu : P.underlying t = some (.map k e)) (hk : eqOK P d k (.int .i64) = true)
    (x : Int) (hK : ∀ w', Sp w0 (L.set i (mc vt r (mdel m x))) w' → K () w') : runK P (.tup .unit) (Builtin.delete_ #[t, t2] ty #[.map (some r), .int .i64 x]) w K := by
  obtain ⟨B, ⟨mm, hB⟩, hlt, back⟩ := s.open i h rfl
  have hr := mm.lt
  obtain ⟨arr, clock, h1, h2, h3, h4, h5⟩ := mm
  have hg : (getObj r).run P w = .ok (.map arr clock) w := MapKept.run_getObj_map h1
  have hf := findKey_run (w := w) hd hk (by simp) x arr.toList (m.map (·.1)) (keys_of (kt := .int .i64) (vt := vt) h2)
  have hck : (Instr.checkKey arr.isEmpty 10000 k (val (.int .i64) x)).run P w = .ok () w := checkKey_run d 10000 hd k (.int .i64) hk x _ w
  have fin : ∀ (arr' : Array MapEntry), arr'.toList.map (fun e => (e.key, e.val)) = PairOf vt (mdel m x) → (arr'.toList.map (·.born)).Nodup → (∀ e ∈ arr'.toList, e.born < clock) → K () { w with heap := w.heap.setIfInBounds r (.map arr' clock) } := fun arr' q1 q2 q3 => by
    refine hK _ (back _ B _ ⟨⟨arr', clock, by simp [hr], q1, q2, q3, nodup_mdel m x h5⟩, hB⟩ ⟨by simp, fun b _ hb => ?_, rfl, rfl, rfl⟩ (fun _ h => Or.inl h) fun b hb => by simpa using (hlt b hb).2)
    have : r ≠ b := fun e => hb (e ▸ hB)
    simp [Array.getElem?_setIfInBounds, this]
  rcases mupd_fnd x v arr.toList m 0 h2 with ⟨q1, _, q2⟩ | ⟨j, u, e', q1, q2, q3, _, q5⟩
  · refine ⟨(), _, ?_, fin arr (by rw [q2]; exact h2) h3 h4⟩
    show (Builtin.delete_ #[t, t2] ty #[.map (some r), val (.int .i64) x]).run P w = _
    unfold Builtin.delete_
    simp only [List.getElem?_toArray, List.getElem?_cons_zero, List.getElem?_cons_succ, Sem.run_bind, run_underlying hu, Result.andThen_ok, hg, hck, hf, q1]
    simp [MapKept.run_setObj_map _ h1, val, vals]
  · refine ⟨(), _, ?_, fin (arr.eraseIdxIfInBounds j) ?_ ?_ ?_⟩
    · show (Builtin.delete_ #[t, t2] ty #[.map (some r), val (.int .i64) x]).run P w = _
      unfold Builtin.delete_
      simp only [List.getElem?_toArray, List.getElem?_cons_zero, List.getElem?_cons_succ, Sem.run_bind, run_underlying hu, Result.andThen_ok, hg, hck, hf, q1]
      simp [MapKept.run_setObj_map _ h1, val, vals]
    · rw [Array.toList_eraseIdxIfInBounds]; exact q5
    · rw [Array.toList_eraseIdxIfInBounds]
      exact List.Nodup.sublist ((List.eraseIdx_sublist _ _).map _) h3
    · intro e he
      rw [Array.toList_eraseIdxIfInBounds] at he
      exact h4 e ((List.eraseIdx_sublist _ _).subset he)

/-! ### Ranges -/
/-- a map whose entries are told -/
def mx (b : Nat) (arr : Array MapEntry) (clock : Nat) : Ob := ⟨false, fun B w => w.heap[b]? = some (.map arr clock) ∧ B b, fun {B F w w'} h f hB => ⟨by rw [f.same b (Array.getElem?_eq_some_iff.1 h.1).1 (hB _ h.2)]; exact h.1, h.2⟩⟩
/-- an iterator over the map b -/
def itr (r b since : Nat) (seen : Array Nat) : Ob := ⟨false, fun B w => (∃ c, since ≤ c ∧ w.heap[r]? = some (.mapIter (some b) since seen c)) ∧ B r, fun {B F w w'} h f hB => by
  obtain ⟨⟨c, h1, h2⟩, h3⟩ := h
  exact ⟨⟨c, h1, by rw [f.same r (Array.getElem?_eq_some_iff.1 h2).1 (hB _ h3)]; exact h2⟩, h3⟩⟩
/-- the entries of a map, told -/
structure Told_ (vt : Ty) (m : List (Int × vt.T)) (arr : Array MapEntry) (clock : Nat) : Prop where
  eq : arr.toList.map (fun e => (e.key, e.val)) = PairOf vt m
  born : (arr.toList.map (·.born)).Nodup
  old : ∀ e ∈ arr.toList, e.born < clock
  keys : (m.map (·.1)).Nodup
theorem Sp.tell {r : Nat} {m : List (Int × vt.T)} (s : Sp w0 L w) (i : Nat) (h : L[i]? = some (mc vt r m)) : ∃ arr clock, Told_ vt m arr clock ∧ Sp w0 (L.set i (mx r arr clock)) w := by
  obtain ⟨arr, clock, h1, h2, h3, h4, h5⟩ := s.mc_ i h
  exact ⟨arr, clock, ⟨h2, h3, h4, h5⟩, s.weak i h _ (fun B hP _ => ⟨B, ⟨h1, hP.2⟩, fun _ h => h⟩) (fun h => h)⟩
theorem Sp.untell {r : Nat} {m : List (Int × vt.T)} {arr : Array MapEntry} {clock : Nat} (t : Told_ vt m arr clock) (s : Sp w0 L w) (i : Nat) (h : L[i]? = some (mx r arr clock)) : Sp w0 (L.set i (mc vt r m)) w :=
  s.weak i h _ (fun B hP _ => ⟨B, ⟨⟨arr, clock, hP.1, t.eq, t.born, t.old, t.keys⟩, hP.2⟩, fun _ h => h⟩) (fun h => h)
theorem Sp.mx_ {b : Nat} {arr : Array MapEntry} {clock : Nat} (s : Sp w0 L w) (i : Nat) (h : L[i]? = some (mx b arr clock)) : w.heap[b]? = some (.map arr clock) := by
  obtain ⟨B, h, _⟩ := s.get i h
  exact h.1
theorem Sp.rangeC {t k e : TypeId} {b : Nat} {arr : Array MapEntry} {clock : Nat} {K : Addr → World → Prop} (s : Sp w0 L w) (i : Nat) (h : L[i]? = some (mx b arr clock)) (hu : P.underlying t = some (.map k e))
    (hK : ∀ r w', Sp w0 (itr r b clock #[] :: L) w' → K ⟨r, 0, none⟩ w') : runK P .addr (Instr.range t (.map (some b))) w K := by
  refine ⟨⟨w.heap.size, 0, none⟩, _, run_range_map w t k e b arr clock hu (s.mx_ i h), hK _ _ (s.push (B := fun b => b = w.heap.size) (alloc_ext w _) ⟨⟨clock, Nat.le_refl _, alloc_new w _⟩, rfl⟩ ?_)⟩
  rintro b rfl
  exact ⟨Nat.le_refl _, by simp⟩
/-- one round of a range, or its end -/
theorem Sp.roundC {b r : Nat} {arr : Array MapEntry} {clock : Nat} {m : List (Int × vt.T)} {seen : Array Nat} {ty : TypeId} {A : World → Prop} {B : Int → World → Prop} (t : Told_ vt m arr clock) (s : Sp w0 L w) (i j : Nat) (hi : L[i]? = some (itr r b clock seen)) (hj : L[j]? = some (mx b arr clock))
    (hend : (∀ e ∈ arr.toList, e.born ∈ seen.toList) → A w) (hrnd : ∀ (e : MapEntry) (k : Int) w', e ∈ arr.toList → e.born ∉ seen.toList → e.key = .int .i64 k → Sp w0 (L.set i (itr r b clock (seen.push e.born))) w' → B k w') :
    ∃ (bb : Bool) (vs : List Value) (w5 : World), (Instr.next (.pointer (some ⟨r, 0, none⟩)) false ty).run P w = .ok (.tuple (Value.bool bb :: vs).toArray) w5 ∧
      gd bb (∃ (k : Int) (v : Value) (w6 : World), (Instr.entry (.pointer (some ⟨r, 0, none⟩))).run P w5 = .ok (.tuple #[.int .i64 k, v]) w6 ∧ B k w6) (A w5) := by
  obtain ⟨Bi, ⟨⟨c, hc1, hc2⟩, hBi⟩, hlt, back⟩ := s.open i hi rfl
  have hb := s.mx_ j hj
  rcases run_next_at (P := P) w ty r b clock c seen arr clock hc2 hb t.old hc1 with ⟨h0, hrun⟩ | ⟨e, he, w1, hw1, hrun⟩
  · refine ⟨false, [], w, hrun, hend fun e he => ?_⟩
    apply Classical.byContradiction
    intro hn
    have hm : e ∈ leftOf arr seen := by
      unfold leftOf
      rw [Array.mem_filter]
      exact ⟨Array.mem_toList_iff.1 he, by simpa [Array.mem_toList_iff] using hn⟩
    have : leftOf arr seen = #[] := Array.eq_empty_of_size_eq_zero h0
    rw [this] at hm
    simp at hm
  · have hm : e ∈ arr ∧ ¬ (e.born ∈ seen) := by
      have h := Array.mem_toList_iff.1 he
      unfold leftOf at h
      rw [Array.mem_filter] at h
      simpa using h
    have hmem : e ∈ arr.toList := Array.mem_toList_iff.2 hm.1
    obtain ⟨k, hk⟩ : ∃ k : Int, e.key = .int .i64 k := by
      have h1 : (e.key, e.val) ∈ arr.toList.map (fun e => (e.key, e.val)) := List.mem_map.2 ⟨e, hmem, rfl⟩
      rw [t.eq] at h1
      obtain ⟨p, _, hp⟩ := List.mem_map.1 h1
      exact ⟨p.1, (congrArg Prod.fst hp).symm⟩
    have hsz : r < w1.heap.size := by
      have := (Array.getElem?_eq_some_iff.1 hc2).1
      rcases hw1 with rfl | rfl <;> exact this
    have hw1h : w1.heap = w.heap := by rcases hw1 with rfl | rfl <;> rfl
    have hF : Fr (fun x => x = r) w (ChangeMaps.setBlock w1 r (.mapIter (some b) clock (seen.push e.born) clock)) := by
      refine ⟨?_, fun x _ hx => ?_, ?_⟩
      · unfold ChangeMaps.setBlock; simp [hw1h]
      · unfold ChangeMaps.setBlock
        have : r ≠ x := fun h => hx h.symm
        simp [Array.getElem?_setIfInBounds, this, hw1h]
      · rcases hw1 with rfl | rfl <;> exact ⟨rfl, rfl, rfl⟩
    have hr' : (ChangeMaps.setBlock w1 r (.mapIter (some b) clock (seen.push e.born) clock)).heap[r]? = some (.mapIter (some b) clock (seen.push e.born) clock) := by
      unfold ChangeMaps.setBlock; simp [hsz]
    have s' := back (itr r b clock (seen.push e.born)) Bi _ ⟨⟨clock, Nat.le_refl _, hr'⟩, hBi⟩ (hF.mono fun x _ hx => hx ▸ hBi) (fun _ h => Or.inl h) (fun x hx => Nat.lt_of_lt_of_le (hlt x hx).2 hF.size)
    have hne : i ≠ j := fun h => by
      subst h
      rw [hi] at hj
      have := Option.some.inj hj
      have h2 := s.mx_ i (by rw [hi, this])
      rw [this] at hi
      obtain ⟨_, ⟨⟨c', _, h3⟩, _⟩, _⟩ := s.get i (this ▸ hi : L[i]? = some (itr r b clock seen))
      rw [hc2] at h3
      have e1 : (itr r b clock seen).P = (mx b arr clock).P := by rw [this]
      have e2 := congrFun (congrFun e1 (fun _ => True)) w
      have e3 : (mx b arr clock).P (fun _ => True) w := ⟨hb, trivial⟩
      rw [← e2] at e3
      have e4 : (itr r b clock seen).P (fun x => x = r) w := ⟨⟨c, hc1, hc2⟩, rfl⟩
      rw [congrFun (congrFun e1 (fun x => x = r)) w] at e4
      have hbr : b = r := e4.2
      rw [hbr, hc2] at hb
      cases hb
    have hb' := s'.mx_ j (setNe hj hne)
    refine ⟨true, [e.key, e.val], _, hrun, ?_⟩
    refine ⟨k, e.val, _, ?_, hrnd e k _ hmem (fun h => hm.2 (Array.mem_toList_iff.1 h)) hk s'⟩
    rw [← hk]
    exact run_entry_at _ r b clock seen arr clock e hr' hb' hmem t.born

end Go.Den

/- law12: the store that all statements begin with, roots, the specification's Reach and List; the walks of CollectReaches and CollectCloses. -/
set_option linter.unusedVariables false
set_option linter.unusedSimpArgs false
namespace Go.Proofs.Ytnbkhhjklpoipaa
open Go.Den

variable {w0 w : World} {Ω : List Ob} {most : Int} {T : List ET} {i j : Nat} {p : Addr} {m : yevergreenref12_Store.T}

/-! ### A list of marks -/
def MB (N : Nat) (inl : List Ty.bool.T) (q : Nat → Prop) : Prop := inl.length = N + 1 ∧ ∀ x : Nat, x ≤ N → ∃ b : Bool, inl[x]? = some b ∧ (b = true ↔ q x)
theorem MB.iff {N : Nat} {inl : List Ty.bool.T} {q r : Nat → Prop} (h : MB N inl q) (e : ∀ x, x ≤ N → (q x ↔ r x)) : MB N inl r :=
  ⟨h.1, fun x hx => by obtain ⟨b, h1, h2⟩ := h.2 x hx; exact ⟨b, h1, h2.trans (e x hx)⟩⟩
theorem MB.put {N k : Nat} {inl : List Ty.bool.T} {q : Nat → Prop} (h : MB N inl q) (v : Bool) (hk : k ≤ N) : MB N (inl.set k v) (fun x => if x = k then v = true else q x) := by
  refine ⟨by rw [List.length_set]; exact h.1, fun x hx => ?_⟩
  have hl := h.1
  rw [List.getElem?_set]
  by_cases c : k = x
  · subst c
    exact ⟨v, by rw [if_pos rfl, if_pos (by omega)], by dsimp only; rw [if_pos rfl]⟩
  · obtain ⟨b, h1, h2⟩ := h.2 x hx
    exact ⟨b, by rw [if_neg c]; exact h1, by dsimp only; rw [if_neg (Ne.symm c)]; exact h2⟩
def trues (inl : List Ty.bool.T) (n : Nat) : List Int := ((List.range n).filter fun i => inl.getD i false).map fun i : Nat => (i : Int)
theorem trues_succ (inl : List Ty.bool.T) (n : Nat) : trues inl (n + 1) = trues inl n ++ (if inl.getD n false = true then [(n : Int)] else []) := by
  unfold trues
  rw [List.range_succ, List.filter_append, List.map_append]
  congr 1
  cases c : inl.getD n false with
  | true => rw [List.filter_cons_of_pos (p := fun i => inl.getD i false) c]; simp
  | false => rw [List.filter_cons_of_neg (p := fun i => inl.getD i false) (by rw [c]; simp)]; simp
theorem trues_len (inl : List Ty.bool.T) (n : Nat) : (trues inl n).length ≤ n := by
  unfold trues
  rw [List.length_map]
  exact Nat.le_trans (List.length_filter_le _ _) (by simp)
theorem trues_sorted (inl : List Ty.bool.T) (n : Nat) : (trues inl n).Pairwise (fun x y => x < y) := by
  unfold trues
  rw [List.pairwise_map]
  exact (List.pairwise_lt_range.filter _).imp fun h => by omega
theorem MB.mem {N : Nat} {inl : List Ty.bool.T} {q : Nat → Prop} (h : MB N inl q) {x : Int} : x ∈ trues inl (N + 1) ↔ ∃ n : Nat, x = n ∧ n ≤ N ∧ q n := by
  unfold trues
  rw [List.mem_map]
  constructor
  · rintro ⟨n, hn, rfl⟩
    obtain ⟨h1, h2⟩ := List.mem_filter.1 hn
    have h3 := List.mem_range.1 h1
    obtain ⟨b, h4, h5⟩ := h.2 n (by omega)
    rw [List.getD_eq_getElem?_getD, h4] at h2
    exact ⟨n, rfl, by omega, h5.1 h2⟩
  · rintro ⟨n, rfl, hn, hq⟩
    obtain ⟨b, h4, h5⟩ := h.2 n hn
    refine ⟨n, List.mem_filter.2 ⟨List.mem_range.2 (by omega), ?_⟩, rfl⟩
    rw [List.getD_eq_getElem?_getD, h4]
    exact h5.2 hq
/-! ### Reach of the specification -/
theorem ref12_Refs_spec {r : RT} (s : Sp w0 Ω w) {K : Sl → World → Prop} (h : ∀ sl w', Sp w0 (own (.int .i64) sl (refs r) :: Ω) w' → K sl w') : C_ref12_Refs r K w := by
  apply S_ref12_Refs
  unfold F_ref12_Refs
  refine s.allocK fun a1 w1 s => s.ldi (x := r.1) 0 0 rfl rfl (gd_eq (fun c => ?_) (fun c => s.ldi (x := r.1) 0 0 rfl rfl (gd_eq (fun c3 => ?_) (fun c3 => ?_))))
  · have : refs r = [r.2.2.1, r.2.2.2.1] := by unfold refs; rw [if_pos c]
    rw [this] at h
    exact s.ldi (x := r.2.2.1) 0 2 rfl rfl (s.ldi (x := r.2.2.2.1) 0 3 rfl rfl (s.allocK fun a5 w2 s => h _ _ ((s.lit (ty := .int .i64) 0 rfl [r.2.2.1, r.2.2.2.1] 2 rfl rfl).pick [0] 2 rfl (by decide))))
  · have : refs r = [r.2.2.1] := by unfold refs; rw [if_neg c, if_pos c3]
    rw [this] at h
    exact s.ldi (x := r.2.2.1) 0 2 rfl rfl (s.allocK fun a5 w2 s => h _ _ ((s.lit (ty := .int .i64) 0 rfl [r.2.2.1] 1 rfl rfl).pick [0] 2 rfl (by decide)))
  · have : refs r = [] := by unfold refs; rw [if_neg c, if_neg c3]
    rw [this] at h
    exact h _ _ (s.pop.nil (.int .i64))
def RchQ (T : List ET) (S : List Int) (x : Nat) : Prop := x ≠ 0 ∧ Rch T S x
theorem trues_rlist {S : List Int} {inl : List Ty.bool.T} (g : Grow T) (hS : ∀ x ∈ S, 0 ≤ x ∧ x ≤ (T.length : Int)) (hm : MB T.length inl (RchQ T S)) : trues inl inl.length = rlist T S := by
  rw [hm.1]
  refine sorted_unique (trues_sorted _ _) rlist_sorted fun x => ?_
  rw [hm.mem, rlist_mem g hS]
  constructor
  · rintro ⟨n, rfl, _, h⟩; exact h.2
  · intro h
    have b := h.bound g hS
    refine ⟨x.toNat, by omega, by omega, by omega, ?_⟩
    rwa [show ((x.toNat : Nat) : Int) = x by omega]

end Go.Proofs.Ytnbkhhjklpoipaa

/- law12: begun, roots; the walks of CollectReaches and CollectCloses. -/
set_option linter.unusedVariables false
set_option linter.unusedSimpArgs false
namespace Go.Proofs.Ytnbkhhjklpoipaa
open Go.Den

variable {w0 w : World} {Ω : List Ob} {most : Int} {T : List ET} {i j : Nat} {p : Addr} {m : yevergreenref12_Store.T}

abbrev Known_ (T : List ET) (S : List Int) : Prop := ∀ x ∈ S, 0 ≤ x ∧ x ≤ (T.length : Int)
theorem is_err {n : Int} (hn : n ≠ 0) {K : Bool → World → Prop} (h : K true w) : C_base_Is (errV n) n K w :=
  base_Is_err hn (by rw [decide_eq_true rfl]; exact h)
theorem collect_Reach_both {rsl : Sl} {S : List Int} (s : Sp w0 Ω w) (i : Nat) (hi : Ω[i]? = some (sto p most T)) (hv : ∀ w', Sp w0 Ω w' → View (.int .i64) w' rsl S) (hSN : S.length ≤ 1000000000) {K : Sl × Value → World → Prop}
    (h : ∀ (r : Sl × Value) (L : List (Ty.int .i64).T) w', (Known_ T S ∧ r.2 = .nilIface ∧ L = rlist T S) ∨ (¬ Known_ T S ∧ r = (⟨none, 0, 0⟩, errV 1) ∧ L = []) → Sp w0 (own (.int .i64) r.1 L :: Ω) w' → K r w') : C_collect_Reach (some p) rsl K w :=
  collect_Reach_sp s i hi hv hSN (fun hk sl w' s => h (sl, .nilIface) _ w' (Or.inl ⟨hk, rfl, rfl⟩) s) (fun hn w' s => h (⟨none, 0, 0⟩, errV 1) [] w' (Or.inr ⟨hn, rfl, rfl⟩) (s.nil (.int .i64)))

/-! ### The store that all begin with -/
theorem first_a : pLetter [] 1 97 = ([mkLetter 97], ((1 : Int), Value.nilIface)) := by kernel_rfl
theorem grow_a : Grow [mkLetter 97] := Grow.letter (L := []) (b := 97) .nil (by decide) (by decide) rfl
theorem rlist_a : rlist [mkLetter 97] [1] = [1] := by
  have hS : ∀ x ∈ [(1 : Int)], 0 ≤ x ∧ x ≤ (([mkLetter 97] : List ET).length : Int) := fun x hx => by simp at hx; subst hx; decide
  refine sorted_unique rlist_sorted (by simp) fun x => ?_
  rw [rlist_mem grow_a hS]
  constructor
  · intro h
    have := h.bound grow_a hS
    have h1 : (([mkLetter 97] : List ET).length : Int) = 1 := rfl
    simp; omega
  · intro h
    simp at h
    subst h
    exact .root (by simp) (by decide)
/-! ### Roots -/
def rootP (T : List ET) (res : List Int) (n : Int) : Int := if n = -4 then -1 else if n = -5 then (T.length : Int) + 1 else rsAt res n
def rootL (T : List ET) (res : List Int) (picks : List Int) : List (Ty.int .i64).T := picks.map (rootP T res)
theorem rootL_len (T : List ET) (res picks : List Int) : (rootL T res picks).length = picks.length := List.length_map _
/-! ### Closure -/
theorem rlist_rlist {S : List Int} (g : Grow T) (hS : Known_ T S) : rlist T (rlist T S) = rlist T S ∧ Known_ T (rlist T S) := by
  have hk : Known_ T (rlist T S) := fun x hx => by
    have := (mem_rlist.1 hx).1
    omega
  refine ⟨sorted_unique rlist_sorted rlist_sorted fun x => ?_, hk⟩
  rw [rlist_mem g hk, rlist_mem g hS]
  constructor
  · intro h
    induction h with
    | root h1 _ => exact (rlist_mem g hS).1 h1
    | ref _ h2 ih => exact .ref ih h2
  · intro h
    exact .root ((rlist_mem g hS).2 h) (by have := (h.bound g hS).1; omega)
theorem rlist_union {S S' : List Int} (g : Grow T) (hS : Known_ T S) (hS' : Known_ T S') : Known_ T (S ++ S') ∧ ∀ x, x ∈ rlist T (S ++ S') ↔ x ∈ rlist T S ++ rlist T S' := by
  have hk : Known_ T (S ++ S') := fun x hx => by
    rcases List.mem_append.1 hx with h | h
    · exact hS x h
    · exact hS' x h
  refine ⟨hk, fun x => ?_⟩
  rw [rlist_mem g hk, List.mem_append, rlist_mem g hS, rlist_mem g hS']
  constructor
  · intro h
    induction h with
    | root h1 h2 =>
      rcases List.mem_append.1 h1 with h | h
      · exact Or.inl (.root h h2)
      · exact Or.inr (.root h h2)
    | ref _ h2 ih =>
      rcases ih with ih | ih
      · exact Or.inl (.ref ih h2)
      · exact Or.inr (.ref ih h2)
  · rintro (h | h)
    · exact h.mono fun y hy => List.mem_append_left _ hy
    · exact h.mono fun y hy => List.mem_append_right _ hy
theorem same_len {L M : List Int} (hL : L.Nodup) (hM : M.Nodup) (h : ∀ x, x ∈ L ↔ x ∈ M) : L.length = M.length := by
  have := sorted_unique (srt_lt hL) (srt_lt hM) fun x => by rw [(srt_perm L).mem_iff, (srt_perm M).mem_iff]; exact h x
  have := congrArg List.length this
  rwa [srt_len, srt_len] at this
theorem mapIB2 : P.underlying t_map_api_ID_bool = some (.map t_api_ID (mapElem t_map_api_ID_bool)) := mapIB
end Go.Proofs.Ytnbkhhjklpoipaa
