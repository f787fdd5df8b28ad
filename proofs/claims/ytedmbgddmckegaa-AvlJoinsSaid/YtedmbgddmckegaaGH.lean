/- Texts that belong together, joined: ExpA, Reach, CertC. No conditions. -/
import Derived.Test.YtedmbgddmckegaaGE
import Derived.Test.YtedmbgddmckegaaGF
/- What the store's reach and Export compute. -/
set_option linter.unusedVariables false
set_option linter.unusedSimpArgs false
namespace Go.Proofs.Ytedmbgddmckegaa
open Go.Den

variable {w0 w : World} {Ω : List Ob} {most : Int} {T : List ET} {i : Nat} {p : Addr}

theorem eqID : eqOK P 1 t_api_ID (.int .i64) = true := by kernel_rfl
theorem mapIB : P.underlying t_map_api_ID_bool = some (.map t_api_ID (mapElem t_map_api_ID_bool)) := by kernel_rfl
theorem zeroIB : zeroOf P (mapElem t_map_api_ID_bool) = some (val .bool false) := by kernel_rfl
theorem mapII : P.underlying t_map_api_ID_api_ID = some (.map t_api_ID (mapElem t_map_api_ID_api_ID)) := by kernel_rfl
theorem zeroII : zeroOf P (mapElem t_map_api_ID_api_ID) = some (val (.int .i64) (0 : Int)) := by kernel_rfl

def seenE (ids : List (Ty.int .i64).T) : List ((Ty.int .i64).T × Ty.bool.T) := ids.map fun x => (x, true)
theorem seenE_append (ids : List (Ty.int .i64).T) (x : Int) : seenE (ids ++ [x]) = seenE ids ++ [(x, true)] := by simp [seenE]
theorem lk_seen {ids : List (Ty.int .i64).T} {y : Int} : lk (kt := .int .i64) (vt := .bool) (seenE ids) y = if y ∈ ids then some true else none := by
  induction ids with
  | nil => rfl
  | cons x ids ih =>
    have e : seenE (x :: ids) = [(x, true)] ++ seenE ids := rfl
    rw [e, lk_append, lk_one rfl, ih]
    by_cases h : y = x
    · subst h; simp
    · rw [if_neg h]
      simp only [Option.none_or, List.mem_cons]
      by_cases h2 : y ∈ ids
      · rw [if_pos h2, if_pos (Or.inr h2)]
      · rw [if_neg h2, if_neg (by rintro (h3 | h3) <;> contradiction)]

theorem intern_reach_sp {id : Int} (s : Sp w0 Ω w) (i : Nat) (hi : Ω[i]? = some (sto p most T)) (h0 : 0 ≤ id) (h1 : id ≤ T.length) {K : Sl → World → Prop} (h : ∀ sl w', Sp w0 (own (.int .i64) sl (rlist T [id]) :: Ω) w' → K sl w') : C_intern_Store_reach (some p) id K w := by
  apply S_intern_Store_reach
  unfold F_intern_Store_reach
  obtain ⟨_, _, _, hb0, hb1, hb2, hg⟩ := Sp.entry s i hi
  have hS : ∀ x ∈ [id], 0 ≤ x ∧ x ≤ (T.length : Int) := fun x hx => by simp at hx; subst hx; exact ⟨h0, h1⟩
  refine gd_eq (fun c => ?_) (fun c => s.allocK fun a1 w1 s => s.allocMap (.int .i64) .bool fun r w2 s => ?_)
  · subst c
    rw [rlist_zero] at h
    exact h _ _ (s.nil (.int .i64))
  refine s.upNew 0 rfl (by decide) mapIB eqID (by simp) id true rfl fun w3 s => ?_
  have s' : Sp w0 (mp (.int .i64) .bool r (seenE [id]) :: own (.int .i64) ⟨some ⟨a1, 0, none⟩, 1, 1⟩ [id] :: Ω) w3 := s.lit (ty := .int .i64) 1 rfl [id] 1 rfl rfl
  clear s
  refine ⟨fun x w => ∃ (ids : List (Ty.int .i64).T) (k : Nat), x.2.1 = (k : Int) ∧ k ≤ ids.length ∧ ids.Nodup ∧ (∀ y ∈ ids, Rch T [id] y) ∧ id ∈ ids ∧ (∀ j, j < k → ∀ y : Int, ids[j]? = some y → ∀ z ∈ refs (eAt T y).1, z ∈ ids) ∧
      Sp w0 (mp (.int .i64) .bool r (seenE ids) :: own (.int .i64) x.1 ids :: Ω) w, fun x _ => ((T.length : Int) - x.2.1).toNat,
    ⟨[id], 0, rfl, Nat.zero_le _, by simp, fun y hy => by simp at hy; subst hy; exact .root (by simp) c, by simp, fun j hj => by omega, s'⟩, ?_⟩
  rintro ⟨sl, x, _⟩ w4 ⟨ids, k, hx, hk, hnd, hrch, hid, hcl, s⟩ _
  dsimp only at hx s ⊢
  subst hx
  have hlen := (s.view 1 rfl).len
  have hbd : ∀ y ∈ ids, 1 ≤ (y : Int) ∧ (y : Int) ≤ (T.length : Nat) := fun y hy => (hrch y hy).bound hg hS
  have hnb := nodup_bound hnd hbd
  refine gd_dec (fun hlt => ?_) (fun hge => ?_)
  · have hk' : k < ids.length := by omega
    obtain ⟨y, hy⟩ : ∃ y : Int, ids[k]? = some y := ⟨_, List.getElem?_eq_getElem hk'⟩
    have hyb : 1 ≤ y ∧ y ≤ (T.length : Int) := hbd y (List.mem_of_getElem? hy)
    refine s.drawK fun w5 s => nonNil_some ?_
    obtain ⟨lsl, hl, hv, _⟩ := Sp.entry s (i + 2) hi
    refine ⟨lsl, hl, (s.view 1 rfl).idx rfl hy rfl fun q hq => ⟨y, hq, arith_i64 (by omega) (by omega) ?_⟩⟩
    refine hv.idx (n := (y - 1).toNat) (by omega) (eAt_get hyb.1 hyb.2) rfl fun q hq => ⟨(eAt T y).1, hq.sub 0 rfl, rule_Refs_spec s fun rsl w6 s => ?_⟩
    have hrl := refs_len (eAt T y).1
    refine loop_by (fun x => x.2.1) (refs (eAt T y).1).length (fun n x w => ∃ more : List (Ty.int .i64).T, (ids ++ more).Nodup ∧ (∀ y ∈ ids ++ more, Rch T [id] y) ∧ (∀ j, j < n → ∀ z : Int, (refs (eAt T y).1)[j]? = some z → z ∈ ids ++ more) ∧
      Sp w0 (own (.int .i64) rsl (refs (eAt T y).1) :: mp (.int .i64) .bool r (seenE (ids ++ more)) :: own (.int .i64) x.1 (ids ++ more) :: Ω) w) rfl ⟨[], by simpa using hnd, by simpa using hrch, fun j hj => by omega, by simpa using s⟩ ?_
    rintro n ⟨sl2, x, _⟩ w7 hn hx ⟨more, hnd2, hrch2, hin, s⟩ _
    dsimp only at hx s ⊢
    subst hx
    have hrlen := (s.view 0 rfl).len
    refine gd_dec (fun hlt2 => ?_) (fun hge2 => ?_)
    · have hn' : n < (refs (eAt T y).1).length := by omega
      obtain ⟨z, hz⟩ : ∃ z : Int, (refs (eAt T y).1)[n]? = some z := ⟨_, List.getElem?_eq_getElem hn'⟩
      have hzr : Rch T [id] z := .ref (hrch y (List.mem_of_getElem? hy)) (List.mem_of_getElem? hz)
      refine JoinP.inl ((s.view 0 rfl).idx rfl hz rfl fun q hq => ⟨z, hq, ?_⟩)
      refine ⟨_, lk1_run (by decide) mapIB eqID (by simp) zeroIB (s.mp_ 1 rfl) z, ?_⟩
      rw [lk_seen]
      by_cases hm : z ∈ ids ++ more
      · rw [if_pos hm]
        refine gd_f rfl fun _ => arith_i64 (by omega) (by omega) (loop_nx hn' ⟨more, hnd2, hrch2, fun j hj u hu => ?_, s⟩)
        by_cases hjn : j < n
        · exact hin j hjn u hu
        · have : j = n := by omega
          subst this
          rw [hz] at hu; cases hu; exact hm
      · rw [if_neg hm]
        have hbd2 : ∀ y ∈ ids ++ more, 1 ≤ (y : Int) ∧ (y : Int) ≤ (T.length : Nat) := fun y hy => (hrch2 y hy).bound hg hS
        have hnb2 := nodup_bound hnd2 hbd2
        refine gd_t rfl (s.upNew 1 rfl (by decide) mapIB eqID (by simp) z true (by rw [lk_seen, if_neg hm]) fun w8 s => s.allocK fun a20 w9 s => s.app 3 rfl ((s.lit (ty := .int .i64) 0 rfl [z] 1 rfl rfl).view 0 rfl) (by simp only [List.length_cons, List.length_nil]; omega) fun s21 w10 s => ?_)
        have hnd3 : (ids ++ (more ++ [z])).Nodup := by
          rw [← List.append_assoc, List.nodup_append]
          exact ⟨hnd2, by simp, fun a ha b hb => by simp at hb; subst hb; exact fun e => hm (e ▸ ha)⟩
        intro _
        refine arith_i64 (by omega) (by omega) (loop_nx hn' ⟨more ++ [z], hnd3, fun u hu => ?_, fun j hj u hu => ?_, ?_⟩)
        · rw [← List.append_assoc] at hu
          rcases List.mem_append.1 hu with h | h
          · exact hrch2 u h
          · simp at h; subst h; exact hzr
        · rw [← List.append_assoc]
          by_cases hjn : j < n
          · exact List.mem_append_left _ (hin j hjn u hu)
          · have : j = n := by omega
            subst this
            rw [hz] at hu; cases hu; simp
        · have s' := s.pop
          rw [← List.append_assoc, seenE_append]
          exact s'
    · have hn' : n = (refs (eAt T y).1).length := by omega
      have hyT : k < T.length := by omega
      refine arith_i64 (by omega) (by omega) ⟨⟨ids ++ more, k + 1, rfl, by simp; omega, hnd2, hrch2, List.mem_append_left _ hid, fun j hj u hu z hz => ?_, s.pop⟩, by omega⟩
      by_cases hjk : j < k
      · rw [List.getElem?_append_left (by omega)] at hu
        exact List.mem_append_left _ (hcl j hjk u hu z hz)
      · have : j = k := by omega
        subst this
        rw [List.getElem?_append_left (by omega), hy] at hu
        cases hu
        obtain ⟨j2, hj2⟩ := List.getElem?_of_mem hz
        exact hin j2 (by have := (List.getElem?_eq_some_iff.1 hj2).1; omega) z hj2
  · have hk' : k = ids.length := by omega
    refine slices_Sort_sp s 1 rfl (by omega) fun w5 s => ?_
    have hmem : ∀ x : Int, x ∈ ids ↔ Rch T [id] x := fun x => by
      refine ⟨fun hx => hrch x hx, fun hx => ?_⟩
      induction hx with
      | root h1 _ => simp at h1; subst h1; exact hid
      | ref _ h2 ih =>
        obtain ⟨j, hj⟩ := List.getElem?_of_mem ih
        exact hcl j (by have := (List.getElem?_eq_some_iff.1 hj).1; omega) _ hj _ h2
    rw [srt_rlist hg hS hnd hmem] at s
    exact h _ _ s.pop

theorem intern_Export_sp {id : Int} (s : Sp w0 Ω w) (i : Nat) (hi : Ω[i]? = some (sto p most T)) {K : Sl × Value → World → Prop} (h1 : 0 ≤ id ∧ id ≤ T.length → ∀ sl w', Sp w0 (own yapi_Rule sl (exp T (rlist T [id])) :: Ω) w' → K (sl, .nilIface) w')
    (h2 : ¬ (0 ≤ id ∧ id ≤ T.length) → K (⟨none, 0, 0⟩, errV 1) w) : C_intern_Store_Export (some p) id K w := by
  apply S_intern_Store_Export
  unfold F_intern_Store_Export
  refine gd_f rfl (intern_known_sp s i hi ?_)
  by_cases hk : 0 ≤ id ∧ id ≤ T.length
  rotate_left
  · have : known T id = false := decide_eq_false hk
    rw [this]
    exact gd_t rfl (h2 hk)
  have hkn : known T id = true := decide_eq_true hk
  rw [hkn]
  replace h1 := h1 hk
  obtain ⟨_, _, _, hb0, hb1, hb2, hg⟩ := Sp.entry s i hi
  have hS : ∀ x ∈ [id], 0 ≤ x ∧ x ≤ (T.length : Int) := fun x hx => by simp at hx; subst hx; exact hk
  have hc := rlist_closed hg hS
  have hrl := rlist_len T [id]
  refine gd_f rfl (intern_reach_sp s i hi hk.1 hk.2 fun sl w2 s => s.allocMap (.int .i64) (.int .i64) fun r w3 s => ?_)
  generalize rlist T [id] = ids at *
  have hlen := (s.view 1 rfl).len
  refine ⟨by omega, by omega, by omega, by omega, s.mkS yapi_Rule (0, 0, 0, 0, 0) 0 sl.len (Nat.zero_le _) (fun a4 w4 s => ?_) rfl (by simp; rfl)⟩
  refine loop_by (fun x => x.2.1) ids.length (fun n x w => Sp w0 (own yapi_Rule x.1 ((exp T ids).take n) :: mp (.int .i64) (.int .i64) r (ent (ids.take n)) :: own (.int .i64) sl ids :: Ω) w) rfl s ?_
  rintro n ⟨out, x, _⟩ w5 hn hx s _
  dsimp only at hx s ⊢
  subst hx
  refine gd_dec (fun hlt => ?_) (fun hge => ?_)
  · have hn' : n < ids.length := by omega
    obtain ⟨y, hy⟩ : ∃ y : Int, ids[n]? = some y := ⟨_, List.getElem?_eq_getElem hn'⟩
    have hyb := hc.bound y (List.mem_of_getElem? hy)
    have hty : ids.take (n + 1) = ids.take n ++ [y] := by rw [List.take_add_one, hy]; rfl
    have hnt : (ids.take (n + 1)).Nodup := hc.nodup.sublist (List.take_sublist _ _)
    have hny : y ∉ ids.take n := fun hm => by
      rw [hty, List.nodup_append] at hnt
      exact hnt.2.2 y hm y (by simp) rfl
    have hln : (ids.take n).length = n := by rw [List.length_take]; omega
    have hex : (exp T ids)[n]? = some (mvr ids (eAt T y).1) := by unfold exp; rw [List.getElem?_map, hy]; rfl
    have hpos : ∀ z : Int, (z ∈ ids → z < y) → (lk (ent (ids.take (n + 1))) z).getD (0 : Int) = pos ids z := fun z hz => by
      by_cases hm : z ∈ ids
      · obtain ⟨j, hj⟩ := List.getElem?_of_mem hm
        have hjn : j < n := (sorted_lt hc.sorted hj hy).1 (hz hm)
        have hj' : (ids.take (n + 1))[j]? = some z := by rw [List.getElem?_take_of_lt (by omega)]; exact hj
        rw [lk_ent_some hnt hj', pos_some hc.nodup hj]; rfl
      · rw [pos_none hm, lk_ent_none fun h => hm (List.mem_of_mem_take h)]; rfl
    refine (s.view 2 rfl).idx rfl hy rfl fun q hq => ⟨y, hq, arith_i64 (by omega) (by omega) (s.upNew 1 rfl (by decide) mapII eqID (by simp) y ((n : Int) + 1) (lk_ent_none hny) fun w6 s => nonNil_some ?_)⟩
    have e : ent (ids.take n) ++ [(y, (n : Int) + 1)] = ent (ids.take (n + 1)) := by rw [hty, ent_append, hln]
    rw [e] at s
    obtain ⟨lsl, hl, hv, _⟩ := Sp.entry s (i + 3) hi
    refine ⟨lsl, hl, arith_i64 (by omega) (by omega) (hv.idx (n := (y - 1).toNat) (by omega) (eAt_get hyb.1 hyb.2) rfl fun q hq => ⟨(eAt T y).1, hq.sub 0 rfl, s.allocK fun a15 w7 s => s.st0 0 rfl rfl rfl fun w8 s => s.drawK fun w9 s => ?_⟩)⟩
    have hrefs : ((eAt T y).1.2.2.1 ∈ ids → (eAt T y).1.2.2.1 < y) ∧ ((eAt T y).1.2.2.2.1 ∈ ids → (eAt T y).1.2.2.2.1 < y) := by
      have := shape_refs (hg.shape hyb.1 hyb.2) hyb.1 hyb.2
      exact ⟨fun _ => this.1.2, fun _ => this.2.2⟩
    refine s.ldi (x := (eAt T y).1.2.2.1) 0 2 rfl rfl ⟨_, lk1_run (by decide) mapII eqID (by simp) zeroII (s.mp_ 2 rfl) (eAt T y).1.2.2.1, s.ldi (x := (eAt T y).1.2.2.2.1) 0 3 rfl rfl ⟨_, lk1_run (by decide) mapII eqID (by simp) zeroII (s.mp_ 2 rfl) (eAt T y).1.2.2.2.1, ?_⟩⟩
    rw [hpos _ hrefs.1, hpos _ hrefs.2]
    refine s.st 0 2 rfl rfl rfl fun w10 s => ⟨?_, s.st 0 3 rfl rfl rfl fun w11 s => s.ld0 (ty := yapi_Rule) (x := mvr ids (eAt T y).1) 0 rfl rfl (s.allocK fun a21 w12 s => ?_)⟩
    · have := lk1_run (P := P) (w := w10) (kt := .int .i64) (vt := .int .i64) (d := 1) (by decide) mapII eqID (by simp) zeroII (s.mp_ 2 rfl) (eAt T y).1.2.2.2.1
      rw [hpos _ hrefs.2] at this
      exact this
    refine s.app 2 rfl ((s.lit (ty := yapi_Rule) 0 rfl [mvr ids (eAt T y).1] 1 (by simp [flat]) rfl).view 0 rfl) (by
      have := exp_len T ids
      simp only [List.length_take, List.length_cons, List.length_nil]; omega) fun s22 w13 s => arith_i64 (by omega) (by omega) (loop_nx hn' ?_)
    have ht : (exp T ids).take (n + 1) = (exp T ids).take n ++ [mvr ids (eAt T y).1] := by rw [List.take_add_one, hex]; rfl
    rw [ht]
    exact s.drop 2
  · have hn' : n = ids.length := by omega
    subst hn'
    have e1 : (exp T ids).take ids.length = exp T ids := by rw [← exp_len T ids, List.take_length]
    rw [e1] at s
    exact h1 _ _ (s.pick [0] 3 rfl (by decide))

end Go.Proofs.Ytedmbgddmckegaa

/- What collect's Reach returns: the list of what the roots reach, in order. -/
set_option linter.unusedVariables false
set_option linter.unusedSimpArgs false
namespace Go.Proofs.Ytedmbgddmckegaa
open Go.Den

variable {w0 w : World} {Ω : List Ob} {most : Int} {T : List ET} {i : Nat} {p : Addr}

theorem collect_known_sp {id : Int} (s : Sp w0 Ω w) (i : Nat) (hi : Ω[i]? = some (sto p most T)) {K : Bool → World → Prop} (h : K (known T id) w) : C_collect_known (some p) id K w := by
  apply S_collect_known
  unfold F_collect_known
  refine gd_dec (fun h1 => intern_Len_sp s i hi ?_) (fun h1 => ?_)
  · have : decide (id ≤ (T.length : Int)) = known T id := by rw [known]; exact decide_eq_decide.2 (by omega)
    rw [this]; exact h
  · have : false = known T id := by simp [known]; omega
    rw [this]; exact h

/-- what a visit leaves -/
def vis (ids : List Int) (x : Int) : List Int := if x ∈ (0 : Int) :: ids then ids else ids ++ [x]
def St4 (a3 a1 r : Nat) (sl : Sl) (ids : List Int) (Ω : List Ob) : List Ob :=
  cel a3 [.map (some r)] :: cel a1 [.slice sl.a sl.len sl.cap] :: own (.int .i64) sl ids :: mp (.int .i64) .bool r (seenE ((0 : Int) :: ids)) :: Ω
theorem collect_visit_sp {a3 a1 r : Nat} {sl : Sl} {ids : List Int} {x : Int} (s : Sp w0 (St4 a3 a1 r sl ids Ω) w) (hN : ids.length ≤ 1000000000) {K : Unit → World → Prop}
    (h : ∀ sl' w', Sp w0 (St4 a3 a1 r sl' (vis ids x) Ω) w' → K () w') : C_collect_Reach_1 x ⟨a3, 0, none⟩ ⟨a1, 0, none⟩ K w := by
  apply S_collect_Reach_1
  unfold F_collect_Reach_1
  unfold St4 at s
  refine s.ldm0 (x := some r) 0 rfl rfl ⟨_, lk1_run (by decide) mapIB eqID (by simp) zeroIB (s.mp_ 3 rfl) x, ?_⟩
  rw [lk_seen]
  by_cases hm : x ∈ (0 : Int) :: ids
  · rw [if_pos hm]
    have hv : vis ids x = ids := if_pos hm
    rw [hv] at h
    exact gd_f rfl (h sl w s)
  · rw [if_neg hm]
    have hv : vis ids x = ids ++ [x] := if_neg hm
    rw [hv] at h
    refine gd_t rfl (s.ldm0 (x := some r) 0 rfl rfl (s.upNew 3 rfl (by decide) mapIB eqID (by simp) x true (by rw [lk_seen, if_neg hm]) fun w1 s => s.lds0 (x := sl) 1 rfl rfl ?_))
    refine s.allocK fun a5 w2 s => s.app 3 rfl ((s.lit (ty := .int .i64) 0 rfl [x] 1 rfl rfl).view 0 rfl) (by simp only [List.length_cons, List.length_nil]; omega) fun s6 w3 s => s.st0 2 rfl rfl rfl fun w4 s => h s6 _ ?_
    have s' := s.pop
    unfold St4
    rw [show ((0 : Int) :: (ids ++ [x])) = ((0 : Int) :: ids) ++ [x] from rfl, seenE_append]
    exact s'

/-- what is known of the list, while it grows -/
structure Vis (T : List ET) (S ids : List Int) : Prop where
  nodup : ids.Nodup
  rch : ∀ y ∈ ids, Rch T S y
theorem Vis.step {S ids : List Int} {x : Int} (v : Vis T S ids) (hx : x ≠ 0 → Rch T S x) : Vis T S (vis ids x) ∧ ids <+: vis ids x ∧ (x ≠ 0 → x ∈ vis ids x) := by
  unfold vis
  by_cases hm : x ∈ (0 : Int) :: ids
  · rw [if_pos hm]
    refine ⟨v, List.prefix_refl _, fun h => ?_⟩
    rcases List.mem_cons.1 hm with h' | h'
    · exact absurd h' h
    · exact h'
  · rw [if_neg hm]
    have h0 : x ≠ 0 := fun e => hm (by rw [e]; simp)
    have hn : x ∉ ids := fun e => hm (List.mem_cons_of_mem _ e)
    refine ⟨⟨?_, fun y hy => ?_⟩, List.prefix_append _ _, fun _ => by simp⟩
    · rw [List.nodup_append]
      exact ⟨v.nodup, by simp, fun a ha b hb => by simp at hb; subst hb; exact fun e => hn (e ▸ ha)⟩
    · rcases List.mem_append.1 hy with h | h
      · exact v.rch y h
      · simp at h; subst h; exact hx h0
theorem Vis.bound {S ids : List Int} (g : Grow T) (hS : ∀ x ∈ S, 0 ≤ x ∧ x ≤ (T.length : Int)) (v : Vis T S ids) : (∀ y ∈ ids, 1 ≤ y ∧ y ≤ (T.length : Int)) ∧ ids.length ≤ T.length := by
  have h : ∀ y ∈ ids, 1 ≤ y ∧ y ≤ (T.length : Int) := fun y hy => (v.rch y hy).bound g hS
  exact ⟨h, nodup_bound v.nodup h⟩

theorem Rch.mono {S S' : List Int} (h : ∀ x ∈ S, x ∈ S') {x : Int} (r : Rch T S x) : Rch T S' x := by
  induction r with
  | root h1 h2 => exact .root (h _ h1) h2
  | ref _ h2 ih => exact .ref ih h2

theorem collect_Reach_sp {rsl : Sl} {S : List Int} (s : Sp w0 Ω w) (i : Nat) (hi : Ω[i]? = some (sto p most T)) (hv : ∀ w', Sp w0 Ω w' → View (.int .i64) w' rsl S) (hSN : S.length ≤ 1000000000) {K : Sl × Value → World → Prop}
    (h : (∀ x ∈ S, 0 ≤ x ∧ x ≤ (T.length : Int)) → ∀ sl w', Sp w0 (own (.int .i64) sl (rlist T S) :: Ω) w' → K (sl, .nilIface) w')
    (hbad : ¬ (∀ x ∈ S, 0 ≤ x ∧ x ≤ (T.length : Int)) → ∀ w', Sp w0 Ω w' → K (⟨none, 0, 0⟩, errV 1) w') : C_collect_Reach (some p) rsl K w := by
  apply S_collect_Reach
  unfold F_collect_Reach
  obtain ⟨_, _, _, hb0, hb1, hb2, hg⟩ := Sp.entry s i hi
  have hlen := (hv _ s).len
  refine gd_f rfl (s.allocK fun a1 w1 s => s.allocMap (.int .i64) .bool fun r w2 s => s.upNew 0 rfl (by decide) mapIB eqID (by simp) (0 : Int) true rfl fun w3 s => s.allocK fun a3 w4 s => s.st0 0 rfl rfl rfl fun w5 s => ?_)
  have s : Sp w0 (St4 a3 a1 r ⟨none, 0, 0⟩ [] Ω) w5 := (s.nil (.int .i64)).pick [1, 3, 0, 2] 4 rfl (by decide)
  refine loop_by (fun x => x.1) S.length (fun n _ w => (∀ x ∈ S.take n, 0 ≤ x ∧ x ≤ (T.length : Int)) ∧ ∃ sl ids, Vis T (S.take n) ids ∧ (∀ x ∈ S.take n, x ≠ 0 → x ∈ ids) ∧ Sp w0 (St4 a3 a1 r sl ids Ω) w) rfl ⟨by simp, ⟨none, 0, 0⟩, [], ⟨by simp, by simp⟩, by simp, s⟩ ?_
  rintro n ⟨x, _⟩ w6 hn hx ⟨hkn, sl, ids, hvis, hin, s⟩ _
  dsimp only at hx ⊢
  subst hx
  have hvb := hvis.bound hg hkn
  refine gd_dec (fun hlt => ?_) (fun hge => ?_)
  · have hn' : n < S.length := by omega
    have hget := List.getElem?_eq_getElem hn'
    have htk : S.take (n + 1) = S.take n ++ [S[n]] := by rw [List.take_add_one, hget]; rfl
    have hmem := List.getElem_mem hn'
    generalize S[n] = z at hget htk hmem
    refine (hv _ (s.drop 4)).idx rfl hget rfl fun q hq => ⟨z, hq, collect_known_sp s (i + 4) hi ?_⟩
    by_cases hz : 0 ≤ z ∧ z ≤ (T.length : Int)
    · rw [show known T z = true from decide_eq_true hz]
      refine gd_f rfl (collect_visit_sp s (by omega) fun sl' w7 s => arith_i64 (by omega) (by omega) (loop_nx hn' ?_))
      have v2 : Vis T (S.take (n + 1)) ids := ⟨hvis.nodup, fun y hy => (hvis.rch y hy).mono fun u hu => by rw [htk]; exact List.mem_append_left _ hu⟩
      obtain ⟨v3, v4, v5⟩ := v2.step (x := z) fun h0 => .root (by rw [htk]; simp) h0
      refine ⟨fun u hu => ?_, sl', vis ids z, v3, fun u hu h0 => ?_, s⟩
      · rw [htk] at hu
        rcases List.mem_append.1 hu with h | h
        · exact hkn u h
        · simp at h; subst h; exact hz
      · rw [htk] at hu
        rcases List.mem_append.1 hu with h | h
        · exact v4.subset (hin u h h0)
        · simp at h; subst h; exact v5 h0
    · rw [show known T z = false from decide_eq_false hz]
      exact gd_t rfl (hbad (fun h => hz (h z hmem)) _ (s.drop 4))
  have hn' : n = S.length := by omega
  subst hn'
  rw [List.take_length] at hkn hvis hin
  refine ⟨fun x w => ∃ (sl : Sl) (ids : List Int) (k : Nat), x.1 = (k : Int) ∧ k ≤ ids.length ∧ Vis T S ids ∧ (∀ x ∈ S, x ≠ 0 → x ∈ ids) ∧ (∀ j, j < k → ∀ y : Int, ids[j]? = some y → ∀ z ∈ refs (eAt T y).1, z ∈ ids) ∧ Sp w0 (St4 a3 a1 r sl ids Ω) w,
    fun x _ => ((T.length : Int) - x.1).toNat, ⟨sl, ids, 0, rfl, Nat.zero_le _, hvis, hin, fun j hj => by omega, s⟩, ?_⟩
  clear hvb hvis hin
  rintro ⟨x, _⟩ w7 ⟨sl, ids, k, hx, hk, hvis, hin, hcl, s⟩ _
  dsimp only at hx ⊢
  subst hx
  have hvb := hvis.bound hg hkn
  have hlen2 := (s.view 2 rfl).len
  refine s.lds0 (x := sl) 1 rfl rfl (gd_dec (fun hlt => ?_) (fun hge => ?_))
  · have hk' : k < ids.length := by omega
    obtain ⟨y, hy⟩ : ∃ y : Int, ids[k]? = some y := ⟨_, List.getElem?_eq_getElem hk'⟩
    have hyb := hvb.1 y (List.mem_of_getElem? hy)
    refine s.lds0 (x := sl) 1 rfl rfl ((s.view 2 rfl).idx rfl hy rfl fun q hq => ⟨y, hq, intern_Rule_k s (i + 4) hi hyb fun w8 s => s.allocK fun a18 w9 s => s.st0 0 rfl rfl rfl fun w10 s => nilIfc_nil (gd_f rfl (s.ld0 (ty := yapi_Rule) (x := (eAt T y).1) 0 rfl rfl (rule_Refs_spec s fun rl w11 s => ?_)))⟩)
    have hrl := refs_len (eAt T y).1
    have s : Sp w0 (St4 a3 a1 r sl ids (own (.int .i64) rl (refs (eAt T y).1) :: Ω)) w11 := s.pick [2, 3, 4, 5, 0] 6 rfl (by decide)
    refine loop_by (fun x => x.1) (refs (eAt T y).1).length (fun n _ w => ∃ sl' ids', Vis T S ids' ∧ ids <+: ids' ∧ (∀ j, j < n → ∀ z : Int, (refs (eAt T y).1)[j]? = some z → z ∈ ids') ∧
      Sp w0 (St4 a3 a1 r sl' ids' (own (.int .i64) rl (refs (eAt T y).1) :: Ω)) w) rfl ⟨sl, ids, hvis, List.prefix_refl _, fun j hj => by omega, s⟩ ?_
    rintro n ⟨x, _⟩ w12 hn hx ⟨sl', ids', hvis', hpre, hr, s⟩ _
    dsimp only at hx ⊢
    subst hx
    have hvb' := hvis'.bound hg hkn
    have hrlen := (s.view 4 rfl).len
    refine gd_dec (fun hlt2 => ?_) (fun hge2 => ?_)
    · have hn' : n < (refs (eAt T y).1).length := by omega
      obtain ⟨z, hz⟩ : ∃ z : Int, (refs (eAt T y).1)[n]? = some z := ⟨_, List.getElem?_eq_getElem hn'⟩
      have hzm := List.mem_of_getElem? hz
      have hzb := refs_in hg hyb.1 hyb.2 hzm
      refine (s.view 4 rfl).idx rfl hz rfl fun q hq => ⟨z, hq, collect_visit_sp s (by omega) fun sl3 w13 s => arith_i64 (by omega) (by omega) (loop_nx hn' ?_)⟩
      obtain ⟨v3, v4, v5⟩ := hvis'.step (x := z) fun _ => .ref (hvis.rch y (List.mem_of_getElem? hy)) hzm
      refine ⟨sl3, vis ids' z, v3, hpre.trans v4, fun j hj u hu => ?_, s⟩
      by_cases hjn : j < n
      · exact v4.subset (hr j hjn u hu)
      · have : j = n := by omega
        subst this
        rw [hz] at hu; cases hu; exact v5 (by omega)
    · refine arith_i64 (by omega) (by omega) ⟨⟨sl', ids', k + 1, rfl, ?_, hvis', fun u hu h0 => hpre.subset (hin u hu h0), fun j hj u hu z hz => ?_, s.pick [0, 1, 2, 3] 5 rfl (by decide)⟩, by omega⟩
      · have := hpre.length_le; omega
      · have hju : ids[j]? = some u := by
          obtain ⟨t, rfl⟩ := hpre
          rwa [List.getElem?_append_left (by omega)] at hu
        by_cases hjk : j < k
        · exact hpre.subset (hcl j hjk u hju z hz)
        · have : j = k := by omega
          subst this
          rw [hy] at hju
          cases hju
          obtain ⟨j2, hj2⟩ := List.getElem?_of_mem hz
          exact hr j2 (by have := (List.getElem?_eq_some_iff.1 hj2).1; omega) z hj2
  · refine s.lds0 (x := sl) 1 rfl rfl (slices_Sort_sp s 2 rfl (by omega) fun w8 s => s.lds0 (x := sl) 1 rfl rfl ?_)
    have hmem : ∀ x : Int, x ∈ ids ↔ Rch T S x := fun x => by
      refine ⟨fun hx => hvis.rch x hx, fun hx => ?_⟩
      induction hx with
      | root h1 h2 => exact hin _ h1 h2
      | ref _ h2 ih =>
        obtain ⟨j, hj⟩ := List.getElem?_of_mem ih
        exact hcl j (by have := (List.getElem?_eq_some_iff.1 hj).1; omega) _ hj _ h2
    have s' : Sp w0 (cel a3 [.map (some r)] :: cel a1 [.slice sl.a sl.len sl.cap] :: own (.int .i64) sl (srt ids) :: mp (.int .i64) .bool r (seenE ((0 : Int) :: ids)) :: Ω) w8 := s
    rw [srt_rlist hg hkn hvis.nodup hmem] at s'
    exact h hkn sl _ (s'.pick [2] 4 rfl (by decide))

end Go.Proofs.Ytedmbgddmckegaa

/- Certificates: what avl returns and what is specified; the walk of AvlCertificates. -/
set_option linter.unusedVariables false
set_option linter.unusedSimpArgs false
namespace Go.Proofs.Ytedmbgddmckegaa
open Go.Den

variable {w0 w : World} {Ω : List Ob} {most : Int} {T : List ET} {i : Nat} {p : Addr} {id : Int}

def rowAt (T : List ET) (x : Int) : RowT := (x, (eAt T x).1.2.2.1, (eAt T x).1.2.2.2.1, (eAt T x).2.2.1, (eAt T x).2.1.1)
noncomputable def crt (T : List ET) (id : Int) : List RowT := (rlist T [id]).map (rowAt T)
theorem crt_len (T : List ET) (id : Int) : (crt T id).length = (rlist T [id]).length := List.length_map _

/-! ### They are consistent -/
theorem even_refs (g : Grow T) {y x : Int} (h1 : 1 ≤ y) (h2 : y ≤ T.length) (he : (eAt T y).2.2.2 = true) (h : x ∈ refs (eAt T y).1) : (eAt T x).2.2.2 = true := by
  cases g.shape h1 h2 with
  | letter b _ _ e => rw [e] at h; simp [refs, mkLetter] at h
  | pair l r _ _ _ _ _ e =>
    rw [e] at h he
    have hx : x = l ∨ x = r := by simpa [refs, mkPair] using h
    simp only [mkPair, Bool.and_eq_true] at he
    rcases hx with rfl | rfl
    · exact he.1.1.1
    · exact he.1.1.2
  | power a k _ _ _ _ e => rw [e] at he; simp [mkPower] at he
theorem even_rch (g : Grow T) (hid : 0 ≤ id ∧ id ≤ T.length) (he : (eAt T id).2.2.2 = true) {x : Int} (h : Rch T [id] x) : (eAt T x).2.2.2 = true := by
  have hS : ∀ x ∈ [id], 0 ≤ x ∧ x ≤ (T.length : Int) := fun x hx => by simp at hx; subst hx; exact hid
  induction h with
  | root h1 _ => simp at h1; subst h1; exact he
  | ref h1 h2 ih =>
    have := h1.bound g hS
    exact even_refs g this.1 this.2 ih h2
theorem fd_map {L : List Int} {x : Int} (h : x ∈ L) : fd (L.map (rowAt T)) x = some (rowAt T x) := by
  induction L with
  | nil => cases h
  | cons y L ih =>
    unfold fd at ih ⊢
    rw [List.map_cons, List.find?_cons]
    by_cases c : x = y
    · subst c
      rw [show (decide (x = rId (rowAt T x))) = true from decide_eq_true rfl]
    · rw [show (decide (x = rId (rowAt T y))) = false from decide_eq_false c]
      exact ih ((List.mem_cons.1 h).resolve_left c)
theorem lastR_lt {E : List RowT} {x : Int} (h : ∀ r ∈ E, rId r < x) (h0 : 0 < x) : lastR E < x := by
  rcases List.eq_nil_or_concat E with e | ⟨E', r, e⟩
  · rw [e]; exact h0
  · rw [e, List.concat_eq_append, lastR_snoc]; exact h r (by rw [e]; simp)
theorem vrf_crt (g : Grow T) (hid : 0 ≤ id ∧ id ≤ T.length) (he : (eAt T id).2.2.2 = true) : ∀ n, n ≤ (crt T id).length → vrf (crt T id) n = true := by
  have hS : ∀ x ∈ [id], 0 ≤ x ∧ x ≤ (T.length : Int) := fun x hx => by simp at hx; subst hx; exact hid
  have hc := rlist_closed g hS
  intro n
  induction n with
  | zero => intro _; rfl
  | succ n ih =>
    intro hn
    have hn' : n < (rlist T [id]).length := by rw [← crt_len]; exact hn
    rw [vrf_succ hn, ih (by omega), Bool.true_and]
    have hget := List.getElem?_eq_getElem hn'
    have e : (crt T id)[n] = rowAt T (rlist T [id])[n] := by
      have h1 : (crt T id)[n]? = some (rowAt T (rlist T [id])[n]) := by unfold crt; rw [List.getElem?_map, List.getElem?_eq_getElem hn']; rfl
      rw [List.getElem?_eq_getElem hn] at h1
      exact Option.some.inj h1
    have et : (crt T id).take n = ((rlist T [id]).take n).map (rowAt T) := by unfold crt; rw [List.map_take]
    rw [e, et]
    have hmem := List.getElem_mem hn'
    generalize (rlist T [id])[n] = x at hget hmem
    have hb := hc.bound x hmem
    have hrch := (mem_rlist.1 hmem).2
    have hev := even_rch g hid he hrch
    have hlt : ∀ y ∈ (rlist T [id]).take n, y < x := fun y hy => by
      obtain ⟨j, hj⟩ := List.getElem?_of_mem hy
      have hjn : j < n := by
        have := (List.getElem?_eq_some_iff.1 hj).1
        rw [List.length_take] at this; omega
      rw [List.getElem?_take_of_lt hjn] at hj
      exact (sorted_lt hc.sorted hj hget).2 hjn
    have hin : ∀ y ∈ rlist T [id], y < x → y ∈ (rlist T [id]).take n := fun y hy hyx => by
      obtain ⟨j, hj⟩ := List.getElem?_of_mem hy
      have hjn := (sorted_lt hc.sorted hj hget).1 hyx
      rw [← List.getElem?_take_of_lt hjn] at hj
      exact List.mem_of_getElem? hj
    unfold rowR
    rw [decide_eq_true (show lastR (((rlist T [id]).take n).map (rowAt T)) < rId (rowAt T x) from lastR_lt (fun r hr => by
      obtain ⟨y, hy, rfl⟩ := List.mem_map.1 hr
      exact hlt y hy) (by show 0 < x; omega)), Bool.true_and]
    have hr := hc.refs x hmem
    cases g.shape hb.1 hb.2 with
    | letter b h1 h2 e =>
      have : leafR (rowAt T x) = true := by
        have hl := wLetter_len b
        unfold leafR rL rR rD rN rowAt
        rw [e]
        simp only [mkLetter, hl]
        rfl
      rw [this]; rfl
    | pair l r h1 h2 h3 h4 h5 e =>
      have e' : (eAt T x).1 = (2, 0, l, r, 0) := by rw [e]; rfl
      have hl : l ∈ rlist T [id] := hr l (by rw [e']; simp [refs])
      have hrr : r ∈ rlist T [id] := hr r (by rw [e']; simp [refs])
      have f1 : fd (((rlist T [id]).take n).map (rowAt T)) (rL (rowAt T x)) = some (rowAt T l) := by
        have : rL (rowAt T x) = l := by unfold rL rowAt; rw [e']
        rw [this]; exact fd_map (hin l hl h2)
      have f2 : fd (((rlist T [id]).take n).map (rowAt T)) (rR (rowAt T x)) = some (rowAt T r) := by
        have : rR (rowAt T x) = r := by unfold rR rowAt; rw [e']
        rw [this]; exact fd_map (hin r hrr h4)
      have hp : pairR (((rlist T [id]).take n).map (rowAt T)) (rowAt T x) = fit (rowAt T x) (rowAt T l) (rowAt T r) := by
        unfold pairR
        rw [f1, f2]
      rw [hp, show fit (rowAt T x) (rowAt T l) (rowAt T r) = true from decide_eq_true ?_, Bool.or_true]
      have hd : (eAt T x).2.2.1 = 1 + (if (eAt T l).2.2.1 < (eAt T r).2.2.1 then (eAt T r).2.2.1 else (eAt T l).2.2.1) := by rw [e]; rfl
      have hw : (eAt T x).2.1.1 = (eAt T l).2.1.1 + (eAt T r).2.1.1 := by rw [e]; rfl
      rw [e] at hev
      simp only [mkPair, Bool.and_eq_true, decide_eq_true_eq] at hev
      obtain ⟨⟨⟨_, _⟩, e3⟩, e4⟩ := hev
      show -1 ≤ (eAt T l).2.2.1 - (eAt T r).2.2.1 ∧ (eAt T l).2.2.1 - (eAt T r).2.2.1 ≤ 1 ∧ (eAt T x).2.2.1 = 1 + max (eAt T l).2.2.1 (eAt T r).2.2.1 ∧ (eAt T x).2.1.1 = (eAt T l).2.1.1 + (eAt T r).2.1.1 ∧ (eAt T l).2.1.1 + (eAt T r).2.1.1 ≤ 1152921504606846976
      refine ⟨e3, e4, ?_, hw, h5⟩
      rw [hd]
      split <;> omega
    | power a k h1 h2 h3 h4 e => rw [e] at hev; simp [mkPower] at hev

/-! ### avl's Certificate -/
theorem avl_check_e (s : Sp w0 Ω w) (i : Nat) (hi : Ω[i]? = some (sto p most T)) (hk : 0 ≤ id ∧ id ≤ T.length) (he : (eAt T id).2.2.2 = true) {K : Value → World → Prop} (h : ∀ w', Sp w0 Ω w' → K .nilIface w') : C_avl_check (some p) id K w := by
  apply S_avl_check
  unfold F_avl_check
  refine avl_Balanced_k s i hi hk fun w1 s => JoinP.inl (nilIfc_nil (gd_t rfl ?_))
  rw [he]
  intro _
  exact gd_f rfl (h _ s)
theorem avl_check_u (s : Sp w0 Ω w) (i : Nat) (hi : Ω[i]? = some (sto p most T)) (hk : 0 ≤ id ∧ id ≤ T.length) (he : (eAt T id).2.2.2 = false) {K : Value → World → Prop} (h : ∀ w', Sp w0 Ω w' → K (errV 4) w') : C_avl_check (some p) id K w := by
  apply S_avl_check
  unfold F_avl_check
  refine avl_Balanced_k s i hi hk fun w1 s => JoinP.inl (nilIfc_nil (gd_t rfl ?_))
  rw [he]
  intro _
  exact gd_t rfl (h _ s)
theorem avl_check_n (s : Sp w0 Ω w) (i : Nat) (hi : Ω[i]? = some (sto p most T)) (hk : ¬ (0 ≤ id ∧ id ≤ T.length)) {K : Value → World → Prop} (h : ∀ w', Sp w0 Ω w' → K (errV 1) w') : C_avl_check (some p) id K w := by
  apply S_avl_check
  unfold F_avl_check
  refine avl_Balanced_u s i hi hk fun w1 s => JoinP.inl (nilIfc_err (gd_f rfl ?_))
  intro _
  exact gd_f rfl (h _ s)
theorem avl_Certificate_e (s : Sp w0 Ω w) (i : Nat) (hi : Ω[i]? = some (sto p most T)) (hk : 0 ≤ id ∧ id ≤ T.length) (he : (eAt T id).2.2.2 = true) {K : Sl × Value → World → Prop} (h : ∀ sl w', Sp w0 (own yavl_Row sl (crt T id) :: Ω) w' → K (sl, .nilIface) w') : C_avl_Certificate (some p) id K w := by
  apply S_avl_Certificate
  unfold F_avl_Certificate
  obtain ⟨_, _, _, hb0, hb1, hb2, hg⟩ := Sp.entry s i hi
  have hS : ∀ x ∈ [id], 0 ≤ x ∧ x ≤ (T.length : Int) := fun x hx => by simp at hx; subst hx; exact hk
  have hc := rlist_closed hg hS
  have hrl := rlist_len T [id]
  have hcl := crt_len T id
  refine avl_check_e s i hi hk he fun w1 s => nilIfc_nil (gd_f rfl (s.allocK fun a3 w2 s => ?_))
  refine collect_Reach_sp (S := [id]) (s.lit (ty := .int .i64) 0 rfl [id] 1 rfl rfl) (i + 1) hi (fun w' s => s.view 0 rfl) (by simp) (fun _ sl w3 s => ?_) (fun hno => absurd hS hno)
  refine nilIfc_nil (gd_f rfl ?_)
  have hlen := (s.view 0 rfl).len
  refine ⟨by omega, by dsimp only; omega, by dsimp only; omega, by dsimp only; omega, s.mkS yavl_Row (0, 0, 0, 0, 0) 0 sl.len (Nat.zero_le _) (fun a6 w4 s => ?_) rfl (by simp; rfl)⟩
  refine loop_by (fun x => x.2.1) (rlist T [id]).length (fun n x w => Sp w0 (own yavl_Row x.1 ((crt T id).take n) :: own (.int .i64) sl (rlist T [id]) :: own (.int .i64) ⟨some ⟨a3, 0, none⟩, 1, 1⟩ [id] :: Ω) w) rfl s ?_
  rintro n ⟨rows, x, _⟩ w5 hn hx s _
  dsimp only at hx s ⊢
  subst hx
  refine gd_dec (fun hlt => ?_) (fun hge => ?_)
  · have hn' : n < (rlist T [id]).length := by omega
    have hget := List.getElem?_eq_getElem hn'
    have htk : (crt T id).take (n + 1) = (crt T id).take n ++ [rowAt T (rlist T [id])[n]] := by
      unfold crt
      rw [List.take_add_one, List.getElem?_map, hget]; rfl
    have hyb := hc.bound _ (List.getElem_mem hn')
    generalize (rlist T [id])[n] = y at hget htk hyb
    refine (s.view 1 rfl).idx rfl hget rfl fun q hq => ⟨y, hq, intern_Rule_k s (i + 3) hi hyb fun w6 s => s.allocK fun a12 w7 s => s.st0 0 rfl rfl rfl fun w8 s => nilIfc_nil (gd_f rfl ?_)⟩
    refine intern_Depth_k s (i + 4) hi ⟨by omega, hyb.2⟩ fun w9 s => nilIfc_nil (gd_f rfl (intern_Weight_k s (i + 4) hi ⟨by omega, hyb.2⟩ fun w10 s => s.allocK fun a17 w11 s => s.st0 0 rfl rfl rfl fun w12 s => nilIfc_nil (gd_f rfl ?_)))
    refine s.ldi (x := (eAt T y).1.2.2.1) 1 2 rfl rfl (s.ldi (x := (eAt T y).1.2.2.2.1) 1 3 rfl rfl (s.ldi (x := (eAt T y).2.1.1) 0 0 rfl rfl (s.allocK fun a22 w13 s => ?_)))
    refine s.app 3 rfl ((s.lit (ty := yavl_Row) 0 rfl [rowAt T y] 1 rfl rfl).view 0 rfl) (by simp only [List.length_take, List.length_cons, List.length_nil]; omega) fun s23 w14 s => arith_i64 (by omega) (by omega) (loop_nx hn' ?_)
    rw [htk]
    exact s.drop 3
  · have e : n = (crt T id).length := by omega
    subst e
    rw [List.take_length] at s
    exact h _ _ (s.pick [0] 3 rfl (by decide))
theorem avl_Certificate_bad {n : Int} (s : Sp w0 Ω w) (i : Nat) (hi : Ω[i]? = some (sto p most T)) (hn : (¬ (0 ≤ id ∧ id ≤ T.length) ∧ n = 1) ∨ ((0 ≤ id ∧ id ≤ T.length) ∧ (eAt T id).2.2.2 = false ∧ n = 4)) {K : Sl × Value → World → Prop} (h : ∀ w', Sp w0 Ω w' → K (⟨none, 0, 0⟩, errV n) w') : C_avl_Certificate (some p) id K w := by
  apply S_avl_Certificate
  unfold F_avl_Certificate
  rcases hn with ⟨h1, rfl⟩ | ⟨h1, h2, rfl⟩
  · exact avl_check_n s i hi h1 fun w' s => nilIfc_err (gd_t rfl (h _ s))
  · exact avl_check_u s i hi h1 h2 fun w' s => nilIfc_err (gd_t rfl (h _ s))

/-! ### The specification's rows -/
structure Mark (T : List ET) (id : Int) (n : Nat) (L : List Bool) : Prop where
  len : L.length = T.length + 1
  rch : ∀ j : Nat, L[j]? = some true → j = 0 ∨ Rch T [id] j
  root : L[id.toNat]? = some true
  refs : ∀ k : Nat, n < k → L[k]? = some true → ∀ z ∈ refs (eAt T k).1, L[z.toNat]? = some true
theorem two_refs (g : Grow T) {y : Int} (h1 : 1 ≤ y) (h2 : y ≤ T.length) : (0 ≤ (eAt T y).1.2.2.1 ∧ (eAt T y).1.2.2.1 < y) ∧ (0 ≤ (eAt T y).1.2.2.2.1 ∧ (eAt T y).1.2.2.2.1 < y) ∧
    ((eAt T y).1.2.2.1 = 0 ∨ (eAt T y).1.2.2.1 ∈ refs (eAt T y).1) ∧ ((eAt T y).1.2.2.2.1 = 0 ∨ (eAt T y).1.2.2.2.1 ∈ refs (eAt T y).1) ∧ (∀ z ∈ refs (eAt T y).1, z = (eAt T y).1.2.2.1 ∨ z = (eAt T y).1.2.2.2.1) := by
  have hs := shape_refs (g.shape h1 h2) h1 h2
  refine ⟨hs.1, hs.2, ?_⟩
  cases g.shape h1 h2 with
  | letter b _ _ e => rw [e]; simp [refs, mkLetter]
  | pair l r _ _ _ _ _ e => rw [e]; simp [refs, mkPair]
  | power a k _ _ _ _ e => rw [e]; simp [refs, mkPower]
theorem Mark.step (g : Grow T) {n : Nat} {L : List Bool} (hn : n + 1 ≤ T.length) (m : Mark T id (n + 1) L) (ht : L[n + 1]? = some true) :
    Mark T id n ((L.set (eAt T ((n : Int) + 1)).1.2.2.1.toNat true).set (eAt T ((n : Int) + 1)).1.2.2.2.1.toNat true) := by
  obtain ⟨b1, b2, r1, r2, r3⟩ := two_refs g (y := (n : Int) + 1) (by omega) (by omega)
  have hl := m.len
  generalize hA : (eAt T ((n : Int) + 1)).1.2.2.1 = A at *
  generalize hB : (eAt T ((n : Int) + 1)).1.2.2.2.1 = B at *
  have hy : Rch T [id] ((n : Int) + 1) := (m.rch (n + 1) ht).resolve_left (by omega)
  have key : ∀ j : Nat, ((L.set A.toNat true).set B.toNat true)[j]? = some true ↔ (j = A.toNat ∨ j = B.toNat ∨ L[j]? = some true) := fun j => by
    rw [List.getElem?_set, List.getElem?_set]
    by_cases c1 : B.toNat = j
    · subst c1; simp; omega
    · rw [if_neg c1]
      by_cases c2 : A.toNat = j
      · subst c2; simp; omega
      · rw [if_neg c2]
        constructor
        · intro h; exact Or.inr (Or.inr h)
        · rintro (h | h | h)
          · exact absurd h.symm c2
          · exact absurd h.symm c1
          · exact h
  refine ⟨by simp [hl], fun j hj => ?_, (key _).2 (Or.inr (Or.inr m.root)), fun k hk hkt z hz => ?_⟩
  · rcases (key j).1 hj with h | h | h
    · rcases r1 with h' | h'
      · left; omega
      · right
        have : Rch T [id] A := .ref hy h'
        rwa [h, show ((A.toNat : Nat) : Int) = A by omega]
    · rcases r2 with h' | h'
      · left; omega
      · right
        have : Rch T [id] B := .ref hy h'
        rwa [h, show ((B.toNat : Nat) : Int) = B by omega]
    · exact m.rch j h
  · rw [key]
    rcases Nat.lt_or_ge (n + 1) k with hk' | hk'
    · rcases (key k).1 hkt with h | h | h
      · omega
      · omega
      · exact Or.inr (Or.inr (m.refs k hk' h z hz))
    · have e : (k : Int) = (n : Int) + 1 := by omega
      rw [e] at hz
      rcases r3 z hz with h | h
      · left; rw [h]
      · right; left; rw [h]
theorem Mark.skip {n : Nat} {L : List Bool} (m : Mark T id (n + 1) L) (ht : L[n + 1]? = some false) : Mark T id n L := by
  refine ⟨m.len, m.rch, m.root, fun k hk hkt z hz => ?_⟩
  rcases Nat.lt_or_ge (n + 1) k with hk' | hk'
  · exact m.refs k hk' hkt z hz
  · have e : k = n + 1 := by omega
    subst e
    rw [ht] at hkt; cases hkt
theorem Mark.iff (g : Grow T) (hid : 0 ≤ id ∧ id ≤ T.length) {L : List Bool} (m : Mark T id 0 L) {x : Int} (h1 : 1 ≤ x) : L[x.toNat]? = some true ↔ Rch T [id] x := by
  have hS : ∀ x ∈ [id], 0 ≤ x ∧ x ≤ (T.length : Int) := fun x hx => by simp at hx; subst hx; exact hid
  constructor
  · intro h
    have := (m.rch _ h).resolve_left (by omega)
    rwa [show ((x.toNat : Nat) : Int) = x by omega] at this
  · intro h
    clear h1
    induction h with
    | root h1 _ => simp at h1; subst h1; exact m.root
    | ref hy hx ih =>
      rename_i y x
      have hb := hy.bound g hS
      have := m.refs y.toNat (by omega) ih
      rw [show ((y.toNat : Nat) : Int) = y by omega] at this
      exact this _ hx
def upL (L : List Bool) (n : Nat) : List Int := ((List.range n).map fun i : Nat => (i : Int) + 1).filter fun x => L.getD x.toNat false
theorem upL_succ (L : List Bool) (n : Nat) : upL L (n + 1) = upL L n ++ (if L.getD (n + 1) false then [(n : Int) + 1] else []) := by
  unfold upL
  rw [List.range_succ, List.map_append, List.filter_append]
  congr 1
  simp only [List.map_cons, List.map_nil, List.filter_cons, List.filter_nil]
  rw [show ((n : Int) + 1).toNat = n + 1 by omega]
theorem Mark.upL (g : Grow T) (hid : 0 ≤ id ∧ id ≤ T.length) {L : List Bool} (m : Mark T id 0 L) : Ytedmbgddmckegaa.upL L T.length = rlist T [id] := by
  unfold Ytedmbgddmckegaa.upL rlist
  refine List.filter_congr fun x hx => ?_
  obtain ⟨i, hi, rfl⟩ := List.mem_map.1 hx
  have hi := List.mem_range.1 hi
  have hl := m.len
  have hk := m.iff g hid (x := (i : Int) + 1) (by omega)
  rw [show ((i : Int) + 1).toNat = i + 1 by omega] at hk ⊢
  have hget : L[i + 1]? = some L[i + 1] := List.getElem?_eq_getElem (by omega)
  rw [List.getD_eq_getElem?_getD, hget]
  rw [hget] at hk
  show L[i + 1] = _
  cases hb : L[i + 1] with
  | true => rw [hb] at hk; exact (@decide_eq_true _ (Classical.propDecidable _) (hk.1 rfl)).symm
  | false => rw [hb] at hk; exact (@decide_eq_false _ (Classical.propDecidable _) (fun h => by cases hk.2 h)).symm

theorem ref13_Rows_spec {rsl lsl : Sl} (g : Grow T) (hN : T.length ≤ 1048576) (s : Sp w0 Ω w) (hv : ∀ w', Sp w0 Ω w' → View yapi_Rule w' rsl (rulesOf T)) (hv2 : ∀ w', Sp w0 Ω w' → View (.int .i64) w' lsl (lensOf T)) (hid : 0 ≤ id ∧ id ≤ T.length) {K : Sl → World → Prop}
    (h : ∀ sl w', Sp w0 (own yevergreenref13_Row sl (crt T id) :: Ω) w' → K sl w') : C_ref13_Rows rsl lsl id K w := by
  apply S_ref13_Rows
  unfold F_ref13_Rows
  have hlen := (hv _ s).len
  rw [rulesOf_len] at hlen
  have hrl := rlist_len T [id]
  refine arith_i64 (by omega) (by omega) ⟨by omega, by omega, by omega, by omega, s.mkS .bool false ((rsl.len : Int) + 1).toNat ((rsl.len : Int) + 1).toNat (Nat.le_refl _) (fun a2 w1 s => ?_)⟩
  refine s.setI (ty := .bool) 0 rfl (n := id.toNat) (y := true) (by omega) (by simp; omega) fun w2 s => ?_
  have m0 : Mark T id T.length ((List.replicate ((rsl.len : Int) + 1).toNat false).set id.toNat true) := by
    refine ⟨by simp; omega, fun j hj => ?_, by rw [List.getElem?_set]; simp; omega, fun k hk hkt => ?_⟩
    · rw [List.getElem?_set] at hj
      by_cases c : id.toNat = j
      · by_cases c0 : j = 0
        · exact Or.inl c0
        · right
          rw [show (j : Int) = id by omega]
          exact .root (by simp) (by omega)
      · rw [if_neg c] at hj
        have := List.mem_of_getElem? hj
        simp at this
    · have := (List.getElem?_eq_some_iff.1 hkt).1
      simp at this; omega
  have s : Sp w0 (own .bool ⟨some ⟨a2, 0, none⟩, ((rsl.len : Int) + 1).toNat, ((rsl.len : Int) + 1).toNat⟩ ((List.replicate ((rsl.len : Int) + 1).toNat false).set id.toNat true) :: Ω) w2 := s
  generalize (List.replicate ((rsl.len : Int) + 1).toNat false).set id.toNat true = L0 at m0 s
  refine ⟨fun x w => ∃ (n : Nat) (L : List Bool), x.1 = (n : Int) ∧ n ≤ T.length ∧ Mark T id n L ∧ Sp w0 (own .bool ⟨some ⟨a2, 0, none⟩, ((rsl.len : Int) + 1).toNat, ((rsl.len : Int) + 1).toNat⟩ L :: Ω) w, fun x _ => x.1.toNat, ⟨T.length, L0, by dsimp only; omega, Nat.le_refl _, m0, s⟩, ?_⟩
  rintro ⟨x, _⟩ w3 ⟨n, L, hx, hn, m, s⟩ _
  dsimp only at hx ⊢
  subst hx
  have hL := m.len
  refine gd_dec (fun hpos => ?_) (fun hz => ?_)
  · obtain ⟨n, rfl⟩ : ∃ k, n = k + 1 := ⟨n - 1, by omega⟩
    have hn' : n < T.length := by omega
    obtain ⟨b1, b2, _⟩ := two_refs g (y := (n : Int) + 1) (by omega) (by omega)
    have hget : L[n + 1]? = some L[n + 1] := List.getElem?_eq_getElem (by omega)
    refine ⟨fun _ w => ∃ L', Mark T id n L' ∧ Sp w0 (own .bool ⟨some ⟨a2, 0, none⟩, ((rsl.len : Int) + 1).toNat, ((rsl.len : Int) + 1).toNat⟩ L' :: Ω) w, ?_, ?_⟩
    · refine (s.view 0 rfl).idx (n := n + 1) rfl hget rfl fun q hq => ⟨_, hq, gd_mk (fun e => ?_) (fun e => ⟨L, m.skip (by rw [hget, e]), s⟩)⟩
      refine arith_i64 (by omega) (by omega) ((hv _ s.pop).idx (n := n) (by omega) (rules_at hn') rfl fun q1 hq1 => ⟨_, ((hq1.sub 2 rfl : At _ (q1.add 2) (cells (.int .i64) (eAt T ((n : Int) + 1)).1.2.2.1))), ?_⟩)
      refine s.setI (ty := .bool) 0 rfl (n := (eAt T ((n : Int) + 1)).1.2.2.1.toNat) (y := true) (by omega) (by omega) fun w5 s => ?_
      refine arith_i64 (by omega) (by omega) ((hv _ s.pop).idx (n := n) (by omega) (rules_at hn') rfl fun q1 hq1 => ⟨_, ((hq1.sub 3 rfl : At _ (q1.add 3) (cells (.int .i64) (eAt T ((n : Int) + 1)).1.2.2.2.1))), ?_⟩)
      refine s.setI (ty := .bool) 0 rfl (n := (eAt T ((n : Int) + 1)).1.2.2.2.1.toNat) (y := true) (by omega) (by simp; omega) fun w6 s => ?_
      exact ⟨_, m.step g (by omega) (by rw [hget, e]), s⟩
    · rintro ⟨⟩ w4 ⟨L', m', s⟩ _
      exact arith_i64 (by omega) (by omega) ⟨⟨n, L', by omega, by omega, m', s⟩, by omega⟩
  · have e : n = 0 := by omega
    subst e
    have hup := m.upL g hid
    refine ref13_Depths_spec g hN s (fun w' s => hv _ s.pop) fun ds w4 s => ?_
    refine loop_from 1 (fun x => x.2.1) T.length (fun n x w => Sp w0 (own yevergreenref13_Row x.1 ((upL L n).map (rowAt T)) :: own (.int .i64) ds (deps0 T) :: own .bool ⟨some ⟨a2, 0, none⟩, ((rsl.len : Int) + 1).toNat, ((rsl.len : Int) + 1).toNat⟩ L :: Ω) w) rfl (s.nil _) ?_
    rintro n ⟨out, x, _⟩ w5 hn hx s _
    dsimp only at hx s ⊢
    subst hx
    refine gd_dec (fun hlt => ?_) (fun hge => ?_)
    · have hn' : n < T.length := by omega
      have hget : L[n + 1]? = some L[n + 1] := List.getElem?_eq_getElem (by omega)
      have hgd : L.getD (n + 1) false = L[n + 1] := by rw [List.getD_eq_getElem?_getD, hget]; rfl
      have hsu := upL_succ L n
      have hul : (upL L n).length ≤ n := by
        unfold upL
        refine Nat.le_trans (List.length_filter_le _ _) ?_
        simp
      rw [hgd] at hsu
      refine ⟨fun x w => Sp w0 (own yevergreenref13_Row x.1 ((upL L (n + 1)).map (rowAt T)) :: own (.int .i64) ds (deps0 T) :: own .bool ⟨some ⟨a2, 0, none⟩, ((rsl.len : Int) + 1).toNat, ((rsl.len : Int) + 1).toNat⟩ L :: Ω) w, ?_, ?_⟩
      · refine (s.view 2 rfl).idx (n := n + 1) (by omega) hget rfl fun q hq => ⟨_, hq, gd_mk (fun e => ?_) (fun e => ?_)⟩
        · rw [e, if_pos rfl] at hsu
          have hd := deps0_at (T := T) (id := (n : Int) + 1) (by omega) (by omega)
          have hlens : (lensOf T)[n]? = some (eAt T ((n : Int) + 1)).2.1.1 := by
            have hg := eAt_get (L := T) (id := (n : Int) + 1) (by omega) (by omega)
            rw [show ((n : Int) + 1 - 1).toNat = n by omega] at hg
            rw [lensOf, List.getElem?_map, hg]; rfl
          refine s.drawK fun w6 s => arith_i64 (by omega) (by omega) ((hv _ (s.drop 3)).idx (n := n) (by omega) (rules_at hn') rfl fun q1 hq1 => ⟨_, ((hq1.sub 2 rfl : At _ (q1.add 2) (cells (.int .i64) (eAt T ((n : Int) + 1)).1.2.2.1))), ?_⟩)
          refine arith_i64 (by omega) (by omega) ((hv _ (s.drop 3)).idx (n := n) (by omega) (rules_at hn') rfl fun q1 hq1 => ⟨_, ((hq1.sub 3 rfl : At _ (q1.add 3) (cells (.int .i64) (eAt T ((n : Int) + 1)).1.2.2.2.1))), ?_⟩)
          refine (s.view 1 rfl).idx (n := ((n : Int) + 1).toNat) (by omega) hd rfl fun q2 hq2 => ⟨_, hq2, arith_i64 (by omega) (by omega) ((hv2 _ (s.drop 3)).idx (n := n) (by omega) hlens rfl fun q3 hq3 => ⟨_, hq3, s.allocK fun a37 w7 s => ?_⟩)⟩
          refine s.app 1 rfl ((s.lit (ty := yevergreenref13_Row) 0 rfl [rowAt T ((n : Int) + 1)] 1 (by rw [show (1 : Int) + (n : Int) = (n : Int) + 1 by omega]; rfl) rfl).view 0 rfl) (by simp only [List.length_map, List.length_cons, List.length_nil]; omega) fun s38 w8 s => ?_
          rw [hsu, List.map_append]
          exact s.pop
        · rw [e] at hsu
          have : upL L (n + 1) = upL L n := by rw [hsu]; simp
          rw [this]
          exact s
      · rintro ⟨out', _⟩ w6 s _
        exact arith_i64 (by omega) (by omega) (loop_fx hn' s)
    · have e : n = T.length := by omega
      subst e
      rw [hup] at s
      exact h _ _ (s.pick [0] 3 rfl (by decide))

theorem eqRow13 : eqOK P 2 t_evergreenref13_Row yevergreenref13_Row = true := by kernel_rfl
theorem guardRow13 : P.eqGuardType P.depth t_evergreenref13_Row = false := by kernel_rfl
theorem row13_neq {xo yo : Operand} {x y : RowT} {K : Bool → Prop} (h : K (!decide (x = y))) : testK P (do eqGuard .neq t_evergreenref13_Row xo yo (val yevergreenref13_Row x) (val yevergreenref13_Row y); binOp .neq t_evergreenref13_Row (val yevergreenref13_Row x) (val yevergreenref13_Row y)) K :=
  test_neq (d := 2) (by decide) eqRow13 guardRow13 ((fun e : beqT yevergreenref13_Row x y = decide (x = y) => e ▸ h) (beqT_dec (t := yevergreenref13_Row) rfl))

theorem law13_AvlCertificates_spec {sl : Sl} {ops : List MakeT} {other : Int} (hv : View yevergreenref12_Make w0 sl ops) (ho : ∀ o ∈ ops, MakeOK o) {K : Bool → World → Prop} (h : ∀ w', Ext w0 w' → K true w') : C_law13_AvlCertificates sl other K w0 := by
  apply S_law13_AvlCertificates
  unfold F_law13_AvlCertificates
  refine awake_guard (fun w1 x hx e1 => fun _ => gd_t hx (law13_awake_spec fun w2 e2 => h _ (e1.trans e2))) fun w1 x hs hx e1 => fun _ => gd_f hx ?_
  have hlen := hv.len
  refine intern_New_sp ((Sp.init w0).toExt e1) fun p w2 s => law12_Build_spec s 0 rfl hv ho (by omega) (by show (ops.length : Int) < 1048576; omega) fun rs w3 s => ?_
  refine ref12_Build_spec (most := 1048576) s hv ho (by omega) (by omega) fun m rs' w4 s => s.allocK fun a8 w5 s => s.st0 0 rfl rfl rfl fun w6 s => gd_f rfl ?_
  have hb := bld_ok (most := 1048576) (by decide) ho
  have s : Sp w0 [cel a8 (cells yevergreenref12_Store m), own (.int .i64) rs' (bld 1048576 ops).2, rf2 m (bld 1048576 ops).1, own (.int .i64) rs (bld 1048576 ops).2, sto p 1048576 (bld 1048576 ops).1] w6 := s
  generalize (bld 1048576 ops).1 = T at *
  generalize (bld 1048576 ops).2 = res at *
  have hT := hb.len
  have hg := hb.grow
  have hel := evs0_len T
  refine s.lds (x := m.1) 0 0 rfl rfl (ref13_Balanced_spec hg (by omega) s (fun w' s => (Sp.rf2_ s 2 rfl).1) fun es w7 s => ?_)
  have hesl := (s.view 0 rfl).len
  refine loop_by (fun x => x.1) (T.length + 1) (fun n x w => Sp w0 [own .bool es (evs0 T), cel a8 (cells yevergreenref12_Store m), own (.int .i64) rs' res, rf2 m T, own (.int .i64) rs res, sto p 1048576 T] w) rfl s ?_
  rintro n ⟨x, _⟩ w8 hn hx s _
  dsimp only at hx ⊢
  subst hx
  refine gd_dec (fun hlt => ?_) (fun hge => ?_)
  · have hn' : n < T.length + 1 := by omega
    have hk : 0 ≤ (n : Int) ∧ (n : Int) ≤ T.length := by omega
    have hev := evs0_at (T := T) hk.1 hk.2
    rw [show ((n : Int)).toNat = n by omega] at hev
    refine ⟨fun _ w => Sp w0 [own .bool es (evs0 T), cel a8 (cells yevergreenref12_Store m), own (.int .i64) rs' res, rf2 m T, own (.int .i64) rs res, sto p 1048576 T] w, ?_, fun _ w9 s _ => arith_i64 (by omega) (by omega) (loop_nx hn' s)⟩
    cases he : (eAt T (n : Int)).2.2.2 with
    | false =>
      refine avl_Certificate_bad (n := 4) s 5 rfl (Or.inr ⟨hk, he, rfl⟩) fun w9 s => (s.view 0 rfl).idx (n := n) rfl hev rfl fun q hq => ⟨_, hq, gd_t (by rw [he]; rfl) ?_⟩
      exact JoinP.inl (base_Is_err (by decide) (gd_f rfl fun _ => gd_f rfl s))
    | true =>
      refine avl_Certificate_e s 5 rfl hk he fun cs w9 s => (s.view 1 rfl).idx (n := n) rfl hev rfl fun q hq => ⟨_, hq, gd_f (by rw [he]; rfl) ?_⟩
      have hcl := crt_len T n
      have hrl := rlist_len T [(n : Int)]
      refine s.drawK fun w10 s => s.lds (x := m.1) 2 0 rfl rfl (s.lds (x := m.2) 2 1 rfl rfl ?_)
      obtain ⟨cc, hcc⟩ : ∃ cc : List RowT, cc = crt T n := ⟨_, rfl⟩
      rw [← hcc] at s hcl
      refine law13_rows_spec (w0 := w10) (w := w10) (Ω := []) (s.view 0 rfl) (Sp.init w10) (by omega) fun gs w11 s' => ?_
      have s2 : Sp w0 (own yevergreenref13_Row gs cc :: _) w11 := s.push (B := fun b => w10.heap.size ≤ b ∧ b < w11.heap.size) s'.ext ⟨s'.own_ 0 rfl, fun b hb => ⟨?_, (s'.own_ 0 rfl).lt b hb⟩⟩ fun b hb => hb
      rotate_left
      · obtain ⟨B, hP, hB⟩ := s'.get 0 rfl
        exact (hB b (hP.2 b hb)).1
      clear s s'
      refine ⟨s2.still 3 1 rfl rfl, s2.still 3 0 rfl rfl, ref13_Rows_spec hg (by omega) s2 (fun w' s => (Sp.rf2_ s 5 rfl).1) (fun w' s => (Sp.rf2_ s 5 rfl).2) hk fun ws w12 s => ?_⟩
      rw [← hcc] at s
      have hl1 := (s.view 0 rfl).len
      have hl2 := (s.view 1 rfl).len
      refine JoinP.inl (nilIfc_nil (gd_f rfl (gd_f (by simp; omega) ?_)))
      refine avl_Verify_spec (s.view 2 rfl) (by omega) fun w13 e => ?_
      have hver : vrf cc cc.length = true := by rw [hcc]; exact vrf_crt hg hk he _ (Nat.le_refl _)
      rw [hver]
      intro _
      have s := s.toExt e
      refine gd_f rfl (loop_by (fun x => x.1) cc.length (fun n' x w => Sp w0 [own yevergreenref13_Row ws cc, own yevergreenref13_Row gs cc, own yavl_Row cs cc, own .bool es (evs0 T), cel a8 (cells yevergreenref12_Store m), own (.int .i64) rs' res, rf2 m T, own (.int .i64) rs res, sto p 1048576 T] w) rfl s ?_)
      rintro k ⟨x, _⟩ w14 hkn hx s _
      dsimp only at hx ⊢
      subst hx
      refine gd_dec (fun hlt2 => ?_) (fun hge2 => s.drop 3)
      have hk' : k < cc.length := by omega
      have hget := List.getElem?_eq_getElem hk'
      exact s.drawK fun w15 s => (s.view 1 rfl).idx (n := k) rfl hget rfl fun q1 hq1 => ⟨_, hq1, (s.view 0 rfl).idx (n := k) rfl hget rfl fun q2 hq2 => ⟨_, hq2, row13_neq (gd_f (by simp) (arith_i64 (by omega) (by omega) (loop_nx hk' s)))⟩⟩
  · by_cases hk : 0 ≤ other ∧ other ≤ T.length
    · have hkn : known T other = true := decide_eq_true hk
      cases he : (eAt T other).2.2.2 with
      | true => exact avl_Certificate_e s 5 rfl hk he fun cs w9 s => s.ld0 (ty := yevergreenref12_Store) (x := m) 2 rfl rfl (ref12_Known_spec s 4 rfl fun w10 s => by rw [hkn]; exact gd_t rfl (h _ s.ext))
      | false => exact avl_Certificate_bad (n := 4) s 5 rfl (Or.inr ⟨hk, he, rfl⟩) fun w9 s => s.ld0 (ty := yevergreenref12_Store) (x := m) 1 rfl rfl (ref12_Known_spec s 3 rfl fun w10 s => by rw [hkn]; exact gd_t rfl (h _ s.ext))
    · have hkn : known T other = false := decide_eq_false hk
      refine avl_Certificate_bad (n := 1) s 5 rfl (Or.inl ⟨hk, rfl⟩) fun w9 s => s.ld0 (ty := yevergreenref12_Store) (x := m) 1 rfl rfl (ref12_Known_spec s 3 rfl fun w10 s => ?_)
      rw [hkn]
      exact gd_f rfl (base_Is_err (by decide) (gd_t rfl (h _ s.ext)))

end Go.Proofs.Ytedmbgddmckegaa
