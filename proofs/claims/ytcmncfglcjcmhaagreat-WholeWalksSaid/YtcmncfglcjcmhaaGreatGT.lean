/- Texts that belong together, joined: TopA, TopB, TopC, AccM. No conditions. -/
import Derived.Test.YtcmncfglcjcmhaaGreatGE
import Derived.Test.YtcmncfglcjcmhaaGreatGF
/- top: steps that make texts, in plain bytes (at, plain). -/
set_option linter.unusedVariables false
set_option linter.unusedSimpArgs false
namespace Go.Proofs.YtcmncfglcjcmhaaGreat
open Go.Den

variable {w0 w : World} {Ω : List Ob} {most : Int} {T : List ET} {p : Addr}

def atN (k n : Int) : Int := Int.tmod (Int.tmod k n + n) n
theorem atN_bound {k n : Int} (hn : 1 ≤ n) : 0 ≤ atN k n ∧ atN k n < n := by
  unfold atN
  have h1 : -n < Int.tmod k n := by
    have := Int.lt_tmod_of_pos k (show 0 < n by omega)
    omega
  exact ⟨Int.tmod_nonneg _ (by omega), Int.tmod_lt_of_pos _ (by omega)⟩
theorem top_at_spec {k n : Int} (hn : 1 ≤ n) (hN : n ≤ 4611686018427387904) {K : Int → World → Prop} (h : K (atN k n) w) : C_top_at k n K w := by
  apply S_top_at
  unfold F_top_at
  have h1 : -n < Int.tmod k n := by
    have := Int.lt_tmod_of_pos k (show 0 < n by omega)
    omega
  have h2 := Int.tmod_lt_of_pos k (show 0 < n by omega)
  exact ⟨by omega, letZ_mk (arith_i64 (by omega) (by omega) ⟨by omega, letZ_mk h⟩)⟩

abbrev MkT := yevergreentop_Make.T
def mkKind (o : MkT) : Int := o.1
def mkA (o : MkT) : Int := o.2.1
def mkB (o : MkT) : Int := o.2.2.1
def mkN (o : MkT) : Int := o.2.2.2.1
def mkM (o : MkT) : Int := o.2.2.2.2.1
def mkText (o : MkT) : ByteArray := o.2.2.2.2.2

def tsAt (ts : List ByteArray) (k : Int) : ByteArray := ts.getD (atN k ts.length).toNat (⟨#[]⟩ : ByteArray)
/-- the text of a step -/
inductive PlainR (ts : List ByteArray) (o : MkT) (t : ByteArray) : Prop
  | text : (atN (mkKind o) 6 = 0 ∨ ts = []) → t = mkText o → (mkText o).size ≤ 60 → PlainR ts o t
  | join : ts ≠ [] → atN (mkKind o) 6 = 1 → bytesOf t = bytesOf (tsAt ts (mkA o)) ++ bytesOf (tsAt ts (mkB o)) → PlainR ts o t
  | rep : ts ≠ [] → (atN (mkKind o) 6 = 2 ∨ atN (mkKind o) 6 = 5) → bytesOf t = Rep (atN (mkN o) 7).toNat (bytesOf (tsAt ts (mkA o))) → PlainR ts o t
  | sect : ts ≠ [] → atN (mkKind o) 6 = 3 → bytesOf t = ((bytesOf (tsAt ts (mkA o))).drop (atN (mkN o) ((tsAt ts (mkA o)).size + 1)).toNat).take (atN (mkM o) ((tsAt ts (mkA o)).size - atN (mkN o) ((tsAt ts (mkA o)).size + 1) + 1)).toNat → PlainR ts o t
  | turn : ts ≠ [] → atN (mkKind o) 6 = 4 → bytesOf t = (bytesOf (tsAt ts (mkA o))).drop (atN (mkN o) ((tsAt ts (mkA o)).size + 1)).toNat ++ (bytesOf (tsAt ts (mkA o))).take (atN (mkN o) ((tsAt ts (mkA o)).size + 1)).toNat → PlainR ts o t
def TsOK (ts : List ByteArray) : Prop := ts.length ≤ 30 ∧ ∀ t ∈ ts, t.size ≤ 400
theorem tsAt_get {ts : List ByteArray} (h : ts ≠ []) (k : Int) : ∃ j : Nat, atN k ts.length = j ∧ ts[j]? = some (tsAt ts k) ∧ tsAt ts k ∈ ts := by
  have hl : 1 ≤ ts.length := List.length_pos_iff.2 h
  have hb := atN_bound (k := k) (n := (ts.length : Int)) (by omega)
  have hj : (atN k ts.length).toNat < ts.length := by omega
  have hg := List.getElem?_eq_getElem hj
  refine ⟨(atN k ts.length).toNat, by omega, ?_, ?_⟩
  · unfold tsAt
    rw [List.getD_eq_getElem?_getD, hg]; rfl
  · unfold tsAt
    rw [List.getD_eq_getElem?_getD, hg]
    exact List.getElem_mem hj
theorem PlainR.small {ts : List ByteArray} {o : MkT} {t : ByteArray} (h : PlainR ts o t) (hts : TsOK ts) : t.size ≤ 2400 := by
  have hl := bytesOf_len t
  cases h with
  | text _ e h => subst e; omega
  | join h1 _ e =>
    obtain ⟨_, _, _, m1⟩ := tsAt_get h1 (mkA o)
    obtain ⟨_, _, _, m2⟩ := tsAt_get h1 (mkB o)
    have := hts.2 _ m1
    have := hts.2 _ m2
    have e2 := congrArg List.length e
    rw [List.length_append, bytesOf_len, bytesOf_len, bytesOf_len] at e2
    omega
  | rep h1 _ e =>
    obtain ⟨_, _, _, m1⟩ := tsAt_get h1 (mkA o)
    have := hts.2 _ m1
    have e2 := congrArg List.length e
    rw [Rep_len, bytesOf_len, bytesOf_len] at e2
    have hb := atN_bound (k := mkN o) (n := 7) (by decide)
    have : (atN (mkN o) 7).toNat * (tsAt ts (mkA o)).size ≤ 6 * 400 := Nat.mul_le_mul (by omega) (by omega)
    omega
  | sect h1 _ e =>
    obtain ⟨_, _, _, m1⟩ := tsAt_get h1 (mkA o)
    have := hts.2 _ m1
    have e2 := congrArg List.length e
    rw [List.length_take, List.length_drop, bytesOf_len, bytesOf_len] at e2
    omega
  | turn h1 _ e =>
    obtain ⟨_, _, _, m1⟩ := tsAt_get h1 (mkA o)
    have := hts.2 _ m1
    have e2 := congrArg List.length e
    rw [List.length_append, List.length_take, List.length_drop, bytesOf_len, bytesOf_len] at e2
    omega
theorem top_plain_spec {tsl : Sl} {ts : List Ty.str.T} {o : MkT} (s : Sp w0 Ω w) (hv : ∀ w', Sp w0 Ω w' → View .str w' tsl ts) (hts : TsOK ts) (ho : (mkText o).size ≤ 9223372036854775807) {K : ByteArray × Bool → World → Prop}
    (h : ∀ t w', PlainR ts o t → t.size ≤ 400 → Sp w0 Ω w' → K (t, true) w') (h0 : ∀ t w', (∀ t', PlainR ts o t' → 400 < t'.size) → Sp w0 Ω w' → K (t, false) w') : C_top_plain tsl o K w := by
  apply S_top_plain
  unfold F_top_plain
  have hl := (hv _ s).len
  have hcnt := hts.1
  have hb6 := atN_bound (k := mkKind o) (n := 6) (by decide)
  refine s.allocK fun a1 w1 s => s.ldi (x := mkKind o) 0 0 rfl rfl (top_at_spec (by decide) (by decide) ?_)
  refine ⟨fun z w => z.1 = decide (atN (mkKind o) 6 = 0 ∨ ts = []) ∧ Sp w0 (cel a1 (cells yevergreentop_Make o) :: Ω) w, gd_eq (fun c => ⟨(decide_eq_true (Or.inl c)).symm, s⟩) (fun c => ⟨?_, s⟩), ?_⟩
  · dsimp only
    rw [Bool.eq_iff_iff, beq_iff_eq, decide_eq_true_eq]
    constructor
    · intro e
      right
      exact List.eq_nil_of_length_eq_zero (by omega)
    · rintro (e | e)
      · exact absurd e c
      · rw [hl, e]; rfl
  clear s
  rintro ⟨z, _⟩ w2 ⟨hz, s⟩ _
  dsimp only at hz ⊢
  subst hz
  refine gd_dec (fun hc => ?_) (fun hc => ?_)
  · refine s.drawK fun w3 s => ⟨mkText o, s.still 0 5 rfl rfl, mkText o, s.still 0 5 rfl rfl, ?_⟩
    by_cases c : (mkText o).size ≤ 60
    · rw [decide_eq_true (by omega)]
      exact h _ _ (.text hc rfl c) (by omega) s.pop
    · rw [decide_eq_false (by omega)]
      refine h0 _ _ (fun t' hp => ?_) s.pop
      have hk0 : ts ≠ [] → atN (mkKind o) 6 = 0 := fun hne => hc.elim id fun e => absurd e hne
      cases hp with
      | text _ _ h => exact absurd h c
      | join h1 h2 _ => have := hk0 h1; omega
      | rep h1 h2 _ => have := hk0 h1; omega
      | sect h1 h2 _ => have := hk0 h1; omega
      | turn h1 h2 _ => have := hk0 h1; omega
  have hc1 : ts ≠ [] := fun e => hc (Or.inr e)
  have hl1 : 1 ≤ ts.length := List.length_pos_iff.2 hc1
  obtain ⟨ja, ea, ga, ma⟩ := tsAt_get hc1 (mkA o)
  obtain ⟨jb, eb, gb, mb⟩ := tsAt_get hc1 (mkB o)
  have sa := hts.2 _ ma
  have sb := hts.2 _ mb
  have el : ((tsl.len : Nat) : Int) = (ts.length : Int) := by omega
  refine s.drawK fun w3 s => s.ldi (x := mkA o) 0 1 rfl rfl (s.ldi (x := mkB o) 0 2 rfl rfl (top_at_spec (by omega) (by omega) ⟨s.still 0 2 rfl rfl, ?_⟩))
  rw [el]
  refine (hv _ s.pop).idx ea ga rfl fun q1 hq1 => ⟨_, hq1, top_at_spec (by omega) (by omega) ⟨hq1, (hv _ s.pop).idx eb gb rfl fun q2 hq2 => ⟨_, hq2, s.ldi (x := mkN o) 0 3 rfl rfl (top_at_spec (by decide) (by decide) ?_)⟩⟩⟩
  have hn7 := atN_bound (k := mkN o) (n := 7) (by decide)
  have hla := bytesOf_len (tsAt ts (mkA o))
  generalize hta : tsAt ts (mkA o) = ta at *
  generalize htb : tsAt ts (mkB o) = tb at *
  have hsz : ∀ x y : ByteArray, (x ++ y).size = x.size + y.size := fun x y => ByteArray.size_append
  refine gd_eq (fun c1 => ⟨by omega, arith_i64 (by omega) (by omega) ?_⟩) (fun c1 => ?_)
  · by_cases c : ta.size + tb.size ≤ 400
    · rw [decide_eq_true (by omega)]
      exact h _ _ (.join hc1 c1 (by rw [hta, htb]; exact bytesOf_append _ _)) (by rw [hsz]; exact c) s.pop
    · rw [decide_eq_false (by omega)]
      refine h0 _ _ (fun t' hp => ?_) s.pop
      have hl' := bytesOf_len t'
      have hl2 := bytesOf_len tb
      cases hp with
      | text h1 _ _ => exact absurd h1 hc
      | join _ _ e =>
        rw [hta, htb] at e
        have e2 := congrArg List.length e
        rw [List.length_append] at e2
        omega
      | rep _ h2 _ => omega
      | sect _ h2 _ => omega
      | turn _ h2 _ => omega
  refine ⟨fun z w => z.1 = decide (atN (mkKind o) 6 = 2 ∨ atN (mkKind o) 6 = 5) ∧ Sp w0 (cel a1 (cells yevergreentop_Make o) :: Ω) w, gd_eq (fun c => ⟨?_, s⟩) (fun c => ⟨?_, s⟩), ?_⟩
  · dsimp only
    rw [Bool.eq_iff_iff, beq_iff_eq, decide_eq_true_eq]
    exact ⟨Or.inl, fun _ => c⟩
  · dsimp only
    rw [Bool.eq_iff_iff, beq_iff_eq, decide_eq_true_eq]
    exact ⟨Or.inr, fun h => h.elim (fun h => absurd h c) id⟩
  clear s
  rintro ⟨z, _⟩ w9 ⟨hz, s⟩ _
  dsimp only at hz ⊢
  subst hz
  refine gd_dec (fun c2 => ?_) (fun c2 => ?_)
  · refine ⟨fun z w => (z.1.size ≤ 400 → bytesOf z.1 = Rep (atN (mkN o) 7).toNat (bytesOf ta)) ∧ (∃ n, n ≤ (atN (mkN o) 7).toNat ∧ bytesOf z.1 = Rep n (bytesOf ta)) ∧ Sp w0 (cel a1 (cells yevergreentop_Make o) :: Ω) w, ?_, ?_⟩
    · refine loop_by (fun x => x.2.1) (atN (mkN o) 7).toNat (fun n x w => bytesOf x.1 = Rep n (bytesOf ta) ∧ x.1.size ≤ 800 ∧ Sp w0 (cel a1 (cells yevergreentop_Make o) :: Ω) w) rfl ⟨by rw [Rep_zero]; rfl, by decide, s⟩ ?_
      clear s
      rintro n ⟨out, x, _⟩ w11 hn hx ⟨ho1, ho2, s⟩ _
      dsimp only at hx ho1 ho2 ⊢
      subst hx
      refine ⟨fun _ w => n < (atN (mkN o) 7).toNat ∧ out.size ≤ 400 ∧ Sp w0 (cel a1 (cells yevergreentop_Make o) :: Ω) w, gd_dec (fun d1 => gd_dec (fun d2 => ⟨by omega, by omega, s⟩) (fun d2 => ⟨fun h => absurd h (by omega), ⟨n, by omega, ho1⟩, s⟩)) (fun d1 => ⟨fun _ => ?_, ⟨n, by omega, ho1⟩, s⟩), ?_⟩
      · have e : n = (atN (mkN o) 7).toNat := by omega
        rw [← e]; exact ho1
      clear s
      rintro _ w12 ⟨d1, d2, s⟩ _
      refine ⟨by omega, arith_i64 (by omega) (by omega) (loop_nx d1 ⟨?_, ?_, s⟩)⟩
      · rw [bytesOf_append, ho1, ← Rep_add, Rep_one]
      · rw [hsz]; omega
    · clear s
      rintro ⟨out, _⟩ w10 ⟨ho1, ⟨n, hn, hrn⟩, s⟩ _
      dsimp only at ho1 hrn ⊢
      by_cases c : out.size ≤ 400
      · rw [decide_eq_true (by omega)]
        exact h _ _ (.rep hc1 c2 (by rw [hta]; exact ho1 c)) c s.pop
      · rw [decide_eq_false (by omega)]
        refine h0 _ _ (fun t' hp => ?_) s.pop
        have hl' := bytesOf_len t'
        have hlo := bytesOf_len out
        cases hp with
        | text h1 _ _ => exact absurd h1 hc
        | join _ h2 _ => omega
        | rep _ _ e =>
          rw [hta] at e
          have e2 := congrArg List.length e
          have e3 := congrArg List.length hrn
          rw [Rep_len] at e2 e3
          have := Rep_le hn (bytesOf ta)
          omega
        | sect _ h2 _ => omega
        | turn _ h2 _ => omega
  have hnb := atN_bound (k := mkN o) (n := (ta.size : Int) + 1) (by omega)
  refine gd_eq (fun c3 => ?_) (fun c3 => ?_)
  · have hmb := atN_bound (k := mkM o) (n := (ta.size : Int) - atN (mkN o) ((ta.size : Int) + 1) + 1) (by omega)
    refine s.ldi (x := mkN o) 0 3 rfl rfl (arith_i64 (by omega) (by omega) (top_at_spec (by omega) (by omega) (s.ldi (x := mkM o) 0 4 rfl rfl (arith_i64 (by omega) (by omega) (arith_i64 (by omega) (by omega) (top_at_spec (by omega) (by omega) (arith_i64 (by omega) (by omega) ⟨fun x e => by cases e; omega, fun x e => by cases e; (try dsimp only); omega, ?_⟩)))))))
    refine h _ _ (.sect hc1 c3 ?_) ?_ s.pop
    · rw [hta, bytesOf_extract]
      dsimp only
      congr 1
      omega
    · rw [ByteArray.size_extract]
      omega
  · have c4 : atN (mkKind o) 6 = 4 := by
      rcases Classical.em (atN (mkKind o) 6 = 0) with e | e
      · exact absurd (Or.inl e) hc
      · have : ¬ (atN (mkKind o) 6 = 2) := fun e => c2 (Or.inl e)
        have : ¬ (atN (mkKind o) 6 = 5) := fun e => c2 (Or.inr e)
        omega
    refine s.ldi (x := mkN o) 0 3 rfl rfl (arith_i64 (by omega) (by omega) (top_at_spec (by omega) (by omega) (s.drawK fun w16 s => ⟨fun x e => (by cases e), fun x e => by cases e; (try dsimp only); omega, ⟨fun x e => by cases e; omega, fun x e => (by cases e), ⟨?_, ?_⟩⟩⟩)))
    · dsimp only
      rw [ByteArray.size_extract, ByteArray.size_extract]
      omega
    · refine h _ _ (.turn hc1 c4 ?_) ?_ s.pop
      · rw [hta, bytesOf_append, bytesOf_extract, bytesOf_extract]
        dsimp only
        rw [List.drop_zero, Nat.sub_zero, List.take_of_length_le (by rw [List.length_drop]; omega)]
      · rw [hsz, ByteArray.size_extract, ByteArray.size_extract]
        dsimp only
        omega

end Go.Proofs.YtcmncfglcjcmhaaGreat

/- top: steps that make texts, in the store (made, build, begin, stands). -/
set_option linter.unusedVariables false
set_option linter.unusedSimpArgs false
namespace Go.Proofs.YtcmncfglcjcmhaaGreat
open Go.Den

variable {w0 w : World} {Ω : List Ob} {most : Int} {T T' : List ET} {p : Addr}

structure TR (T : List ET) (ids : List Int) (ts : List ByteArray) : Prop where
  len : ids.length = ts.length
  at_ : ∀ (k : Nat) (id : Int) (t : ByteArray), ids[k]? = some id → ts[k]? = some t → ∃ d, Nd0 T id (bytesOf t) d
theorem TR.ext {ids : List Int} {ts : List ByteArray} (h : TR T ids ts) (e : T <+: T') : TR T' ids ts := ⟨h.len, fun k id t h1 h2 => by
  obtain ⟨d, n⟩ := h.at_ k id t h1 h2
  exact ⟨d, n.ext e⟩⟩
theorem TR.snoc {ids : List Int} {ts : List ByteArray} {id d : Int} {t : ByteArray} (h : TR T ids ts) (n : Nd0 T id (bytesOf t) d) : TR T (ids ++ [id]) (ts ++ [t]) := by
  refine ⟨by rw [List.length_append, List.length_append, h.len]; rfl, fun k i' t' h1 h2 => ?_⟩
  have hl := h.len
  by_cases hk : k < ids.length
  · rw [List.getElem?_append_left hk] at h1
    rw [List.getElem?_append_left (by omega)] at h2
    exact h.at_ k i' t' h1 h2
  · rw [List.getElem?_append_right (by omega)] at h1
    rw [List.getElem?_append_right (by omega)] at h2
    have hk0 : k - ids.length = 0 := by
      have := (List.getElem?_eq_some_iff.1 h1).1
      simp at this; omega
    rw [hk0] at h1
    rw [show k - ts.length = 0 by omega] at h2
    simp at h1 h2
    subst h1 h2
    exact ⟨d, n⟩
theorem TR.get {ids : List Int} {ts : List ByteArray} (h : TR T ids ts) (hne : ts ≠ []) (k : Int) : ∃ (j : Nat) (id d : Int), atN k ids.length = j ∧ ids[j]? = some id ∧ Nd0 T id (bytesOf (tsAt ts k)) d := by
  obtain ⟨j, e, g, _⟩ := tsAt_get hne k
  have hj := (List.getElem?_eq_some_iff.1 g).1
  have hl := h.len
  obtain ⟨id, hid⟩ : ∃ id, ids[j]? = some id := ⟨_, List.getElem?_eq_getElem (by omega)⟩
  obtain ⟨d, n⟩ := h.at_ j id _ hid g
  exact ⟨j, id, d, by rw [hl]; exact e, hid, n⟩
theorem Rep_small {k n : Nat} {t : List Int} (h1 : k ≤ 6) (h2 : t.length ≤ n) : (Rep k t).length ≤ 6 * n := by
  rw [Rep_len]
  exact Nat.mul_le_mul h1 h2

theorem top_made_spec {isl tsl : Sl} {ids : List (Ty.int .i64).T} {ts : List Ty.str.T} {o : MkT} {t : ByteArray} (s : Sp w0 Ω w) (i : Nat) (hi : Ω[i]? = some (sto p most T)) (hvi : ∀ w' T', Sp w0 (Ω.set i (sto p most T')) w' → View (.int .i64) w' isl ids) (hvt : ∀ w' T', Sp w0 (Ω.set i (sto p most T')) w' → View .str w' tsl ts)
    (hts : TsOK ts) (hr : TR T ids ts) (hp : PlainR ts o t) (hroom : (T.length : Int) + 17000 ≤ most) {K : Int × Value → World → Prop}
    (h : ∀ T' id d w', T <+: T' → Grow T' → T'.length ≤ T.length + 17000 → Nd0 T' id (bytesOf t) d → Sp w0 (Ω.set i (sto p most T')) w' → K (id, .nilIface) w') : C_top_made (some p) isl tsl o K w := by
  apply S_top_made
  unfold F_top_made
  obtain ⟨_, _, _, hb0, hb1, hb2, hg⟩ := Sp.entry s i hi
  have s0 : Sp w0 (Ω.set i (sto p most T)) w := by rw [setSame hi]; exact s
  have hli := (hvi _ _ s0).len
  have hlt := (hvt _ _ s0).len
  have hil := hr.len
  have hcnt := hts.1
  have hself : ∀ {A : Ob} {w : World}, Sp w0 (A :: Ω) w → Sp w0 (Ω.set i (sto p most T)) w := fun s => by
    have := s.pop
    rw [setSame hi]; exact this
  have hb6 := atN_bound (k := mkKind o) (n := 6) (by decide)
  refine s.allocK fun a1 w1 s => s.ldi (x := mkKind o) 0 0 rfl rfl (top_at_spec (by decide) (by decide) ?_)
  refine ⟨fun z w => z.1 = decide (atN (mkKind o) 6 = 0 ∨ ts = []) ∧ Sp w0 (cel a1 (cells yevergreentop_Make o) :: Ω) w, gd_eq (fun c => ⟨(decide_eq_true (Or.inl c)).symm, s⟩) (fun c => ⟨?_, s⟩), ?_⟩
  · dsimp only
    rw [Bool.eq_iff_iff, beq_iff_eq, decide_eq_true_eq]
    constructor
    · intro e
      right
      exact List.eq_nil_of_length_eq_zero (by omega)
    · rintro (e | e)
      · exact absurd e c
      · rw [hli, hil, e]; rfl
  clear s
  rintro ⟨z, _⟩ w2 ⟨hz, s⟩ _
  dsimp only at hz ⊢
  subst hz
  refine gd_dec (fun hc => ?_) (fun hc => ?_)
  · have ht : t = mkText o ∧ (mkText o).size ≤ 60 := by
      cases hp with
      | text _ e h => exact ⟨e, h⟩
      | join h1 h2 _ => rcases hc with e | e
                        · omega
                        · exact absurd e h1
      | rep h1 h2 _ => rcases hc with e | e
                       · omega
                       · exact absurd e h1
      | sect h1 h2 _ => rcases hc with e | e
                        · omega
                        · exact absurd e h1
      | turn h1 h2 _ => rcases hc with e | e
                        · omega
                        · exact absurd e h1
    obtain ⟨rfl, hsz⟩ := ht
    have hbl := bytesOf_len (mkText o)
    refine ⟨mkText o, s.still 0 5 rfl rfl, toBytes s (mkText o) fun bsl w4 hcap s => ?_⟩
    refine balance_Text_sp (xs := bytesOf (mkText o)) (by omega) (bytesOf_range _) s (i + 2) hi (fun w' T' s => s.vw_ 0 rfl) hcap fun T1 r w5 hq s => ?_
    have hl1 := hq.len
    rcases hq.out with ⟨e1, d, nd⟩ | ⟨_, hf⟩
    rotate_left
    · omega
    obtain ⟨r1, r2⟩ := r
    dsimp only at e1 nd ⊢
    subst e1
    exact h T1 r1 d w5 hq.ext hq.grow (by omega) nd (s.drop 2)
  have hc1 : ts ≠ [] := fun e => hc (Or.inr e)
  have hl1 : 1 ≤ ts.length := List.length_pos_iff.2 hc1
  obtain ⟨ja, ea, ga, ma⟩ := tsAt_get hc1 (mkA o)
  obtain ⟨ka, a, da, fa, ha, na⟩ := hr.get hc1 (mkA o)
  obtain ⟨kb, b, db, fb, hb, nb⟩ := hr.get hc1 (mkB o)
  obtain ⟨_, _, _, mb⟩ := tsAt_get hc1 (mkB o)
  have sa := hts.2 _ ma
  have sb := hts.2 _ mb
  have hla := bytesOf_len (tsAt ts (mkA o))
  have hlb := bytesOf_len (tsAt ts (mkB o))
  have el : ((isl.len : Nat) : Int) = (ids.length : Int) := by omega
  have el2 : ((tsl.len : Nat) : Int) = (ts.length : Int) := by omega
  refine s.drawK fun w3 s => s.ldi (x := mkA o) 0 1 rfl rfl (s.ldi (x := mkB o) 0 2 rfl rfl (top_at_spec (by omega) (by omega) ⟨s.still 0 2 rfl rfl, ?_⟩))
  rw [el]
  refine (hvi _ _ (hself s)).idx fa ha rfl fun q1 hq1 => ⟨a, hq1, top_at_spec (by omega) (by omega) ⟨hq1, (hvi _ _ (hself s)).idx fb hb rfl fun q2 hq2 => ⟨b, hq2, s.ldi (x := mkA o) 0 1 rfl rfl (top_at_spec (by omega) (by omega) ?_)⟩⟩⟩
  rw [el2]
  refine (hvt _ _ (hself s)).idx ea ga rfl fun q3 hq3 => ⟨_, hq3, s.ldi (x := mkN o) 0 3 rfl rfl (top_at_spec (by decide) (by decide) ?_)⟩
  have hn7 := atN_bound (k := mkN o) (n := 7) (by decide)
  have dpa := na.deep hg
  have dpb := nb.deep hg
  cases hp with
  | text h1 _ _ => exact absurd h1 hc
  | join _ c1 e =>
    rw [c1]
    refine gd_t rfl (avl_Join_sp s (i + 1) hi na nb (by omega) fun T1 r w5 hq s => ?_)
    have hl1 := hq.len
    have hj : joinN a b da db ≤ 300 := by unfold joinN; split <;> omega
    rcases hq.out with ⟨e1, d, nd, _⟩ | ⟨_, hf⟩
    rotate_left
    · omega
    obtain ⟨r1, r2⟩ := r
    dsimp only at e1 nd ⊢
    subst e1
    exact h T1 r1 d w5 hq.ext hq.grow (by omega) (by rw [e]; exact nd) s.pop
  | rep _ c1 e =>
    have hrs := Rep_small (k := (atN (mkN o) 7).toNat) (t := bytesOf (tsAt ts (mkA o))) (by omega) (show _ ≤ 400 by omega)
    have hmul : ((bytesOf (tsAt ts (mkA o))).length : Int) * atN (mkN o) 7 ≤ 1152921504606846976 := by
      have h1 : ((bytesOf (tsAt ts (mkA o))).length : Int) * atN (mkN o) 7 ≤ 400 * 6 := Int.mul_le_mul (by omega) (by omega) (by omega) (by decide)
      omega
    rcases c1 with c1 | c1
    · rw [c1]
      refine gd_f rfl (gd_t rfl (balance_Repeat_ok s (i + 1) hi na (by omega) hmul (by omega) (by omega) fun T1 r d w5 x1 g1 l1 nd s => ?_))
      exact h T1 r d w5 x1 g1 (by omega) (by rw [e]; exact nd) s.pop
    · rw [c1]
      have hr3 := pPower_txt (most := most) (k := atN (mkN o) 7) hg hb2 na (by omega) (by rw [(na.len hg).1]; exact hmul)
      refine gd_f rfl (gd_f rfl (gd_f rfl (gd_f rfl (intern_Power_sp s (i + 1) hi (by omega) fun w7 s => ?_))))
      generalize pPower T most a (atN (mkN o) 7) = pr at *
      obtain ⟨T3, zz⟩ := pr
      dsimp only at hr3 s ⊢
      have l3 := hr3.len
      rcases hr3.out with ⟨e3, hk3, ht3, hrf⟩ | ⟨_, hf⟩
      rotate_left
      · omega
      obtain ⟨z, z2⟩ := zz
      dsimp only at e3 hk3 ht3 hrf ⊢
      subst e3
      have g3 := hr3.grow
      obtain ⟨B, hB⟩ := bound_ex (g3.at_ hk3.1 hk3.2).1.len
      have hcost := cost_one g3 hk3 hrf hB.2.2
      have hi3 : (cel a1 (cells yevergreentop_Make o) :: Ω.set i (sto p most T3))[i + 1]? = some (sto p most T3) := setGet hi
      have s : Sp w0 (cel a1 (cells yevergreentop_Make o) :: Ω.set i (sto p most T3)) w7 := s
      refine nilIfc_nil (gd_f rfl (balance_Of_sp s (i + 1) hi3 hk3 hB fun T4 u w8 hr4 s => ?_))
      have l4 := hr4.len
      rcases hr4.out with ⟨e4, ⟨d4, n4⟩, _⟩ | ⟨_, hf⟩
      rotate_left
      · omega
      obtain ⟨y2, u2⟩ := u
      dsimp only at e4 n4 ⊢
      subst e4
      rw [ht3] at n4
      have s : Sp w0 (cel a1 (cells yevergreentop_Make o) :: (Ω.set i (sto p most T3)).set i (sto p most T4)) w8 := s
      rw [List.set_set] at s
      exact h T4 y2 d4 w8 (hr3.ext.trans hr4.ext) hr4.grow (by omega) (by rw [e]; exact n4) s.pop
  | sect _ c1 e =>
    rw [c1]
    have hnb := atN_bound (k := mkN o) (n := ((tsAt ts (mkA o)).size : Int) + 1) (by omega)
    have hmb := atN_bound (k := mkM o) (n := ((tsAt ts (mkA o)).size : Int) - atN (mkN o) (((tsAt ts (mkA o)).size : Int) + 1) + 1) (by omega)
    refine gd_f rfl (gd_f rfl (gd_t rfl (s.ldi (x := mkN o) 0 3 rfl rfl (arith_i64 (by omega) (by omega) (top_at_spec (by omega) (by omega) (s.ldi (x := mkM o) 0 4 rfl rfl (arith_i64 (by omega) (by omega) (arith_i64 (by omega) (by omega) (top_at_spec (by omega) (by omega) (split_Section_sp s (i + 1) hi na (fun _ T1 r w5 hq s => ?_) (fun hno => absurd ⟨by omega, by omega, by omega⟩ hno)))))))))))
    have hl1 := hq.len
    rcases hq.out with ⟨e1, d, nd, _⟩ | ⟨_, hf⟩
    rotate_left
    · omega
    obtain ⟨r1, r2⟩ := r
    dsimp only at e1 nd ⊢
    subst e1
    exact h T1 r1 d w5 hq.ext hq.grow (by omega) (by rw [e]; exact nd) s.pop
  | turn _ c1 e =>
    rw [c1]
    have hnb := atN_bound (k := mkN o) (n := ((tsAt ts (mkA o)).size : Int) + 1) (by omega)
    refine gd_f rfl (gd_f rfl (gd_f rfl (gd_t rfl (s.ldi (x := mkN o) 0 3 rfl rfl (arith_i64 (by omega) (by omega) (top_at_spec (by omega) (by omega) (split_Split_sp s (i + 1) hi na (by omega) (by omega) fun T1 r w5 hq s => ?_)))))))
    have hl1 := hq.len
    rcases hq.out with ⟨e1, e2, hnil, n1, n2, b1, b2⟩ | ⟨_, hf⟩
    rotate_left
    · omega
    obtain ⟨r1, r2, r3⟩ := r
    dsimp only at hnil n1 n2 ⊢
    subst hnil
    have s : Sp w0 (cel a1 (cells yevergreentop_Make o) :: Ω.set i (sto p most T1)) w5 := s
    have hi3 : (cel a1 (cells yevergreentop_Make o) :: Ω.set i (sto p most T1))[i + 1]? = some (sto p most T1) := setGet hi
    have g1 := hq.grow
    have dp1 := n1.deep g1
    have dp2 := n2.deep g1
    refine nilIfc_nil (gd_f rfl (avl_Join_sp s (i + 1) hi3 n2 n1 (by rw [List.length_drop, List.length_take]; omega) fun T2 r w6 hq2 s => ?_))
    have hl2 := hq2.len
    have hj : joinN r2 r1 e2 e1 ≤ 300 := by unfold joinN; split <;> omega
    rcases hq2.out with ⟨e5, d, nd, _⟩ | ⟨_, hf⟩
    rotate_left
    · omega
    obtain ⟨r4, r5⟩ := r
    dsimp only at e5 nd ⊢
    subst e5
    have s : Sp w0 (cel a1 (cells yevergreentop_Make o) :: (Ω.set i (sto p most T1)).set i (sto p most T2)) w6 := s
    rw [List.set_set] at s
    exact h T2 r4 d w6 (hq.ext.trans hq2.ext) hq2.grow (by omega) (by rw [e]; exact nd) s.pop

end Go.Proofs.YtcmncfglcjcmhaaGreat

/- top: what the statements begin with (build, begin, stands). -/
set_option linter.unusedVariables false
set_option linter.unusedSimpArgs false
namespace Go.Proofs.YtcmncfglcjcmhaaGreat
open Go.Den

variable {w0 w : World} {Ω : List Ob} {most : Int} {T T' : List ET} {p : Addr}

/-- one step, and the steps of a list -/
def St (o : MkT) (ts ts' : List ByteArray) : Prop := (∃ t, PlainR ts o t ∧ t.size ≤ 400 ∧ ts' = ts ++ [t]) ∨ ((∀ t', PlainR ts o t' → 400 < t'.size) ∧ ts' = ts)
def Mks : List MkT → List ByteArray → List ByteArray → Prop
  | [], ts, ts' => ts' = ts
  | o :: l, ts, ts' => ∃ t1, St o ts t1 ∧ Mks l t1 ts'
theorem Mks.snoc {o : MkT} {t1 t2 : List ByteArray} : ∀ {l : List MkT} {ts : List ByteArray}, Mks l ts t1 → St o t1 t2 → Mks (l ++ [o]) ts t2
  | [], ts, h, h2 => by
    have h : t1 = ts := h
    subst h
    exact ⟨t2, h2, rfl⟩
  | x :: l, ts, ⟨u, hu, h⟩, h2 => ⟨u, hu, h.snoc h2⟩
theorem nd0_pos (g : Grow T) {id d : Int} {t : List Int} (n : Nd0 T id t d) : 0 < id ↔ 0 < t.length := by
  have h := (n.len g).1
  have hp := n.pos
  constructor
  · intro h1
    have := (n.nd (by omega)).len g
    omega
  · intro h1
    rcases Int.lt_or_le 0 id with h2 | h2
    · exact h2
    · have : id = 0 := by omega
      subst this
      have := n.nil.1
      subst this
      simp at h1
/-- the texts and their IDs, in a store -/
structure BG (T : List ET) (list : List MkT) (ids : List Int) (ts : List ByteArray) : Prop where
  tr : TR T ids ts
  ok : TsOK ts
  grow : Grow T
  stp : Mks (list.take 30) [] ts
  room : T.length ≤ 520000
def lim (n : Nat) : Nat := n * 17000
theorem lim_succ (n : Nat) : lim (n + 1) = lim n + 17000 := by unfold lim; omega
theorem lim_le {n : Nat} (h : n ≤ 30) : lim n ≤ 510000 := by unfold lim; omega
theorem top_build_spec {lsl : Sl} {list : List MkT} (s : Sp w0 Ω w) (i : Nat) (hi : Ω[i]? = some (sto p 1048576 [])) (hv : ∀ w' T', Sp w0 (Ω.set i (sto p 1048576 T')) w' → View yevergreentop_Make w' lsl list) (ho : ∀ o ∈ list, (mkText o).size ≤ 9223372036854775807) {K : Sl × Sl × Bool → World → Prop}
    (h : ∀ isl tsl ids ts T' w', BG T' list ids ts → Sp w0 (own (.int .i64) isl ids :: own .str tsl ts :: Ω.set i (sto p 1048576 T')) w' → K (isl, tsl, true) w') : C_top_build (some p) lsl K w := by
  apply S_top_build
  unfold F_top_build
  have s0 : Sp w0 (Ω.set i (sto p 1048576 [])) w := by rw [setSame hi]; exact s
  have hl := (hv _ _ s0).len
  refine ⟨fun z w => ∃ (ids : List (Ty.int .i64).T) (ts : List Ty.str.T) (T' : List ET), BG T' list ids ts ∧ Sp w0 (own (.int .i64) z.1 ids :: own .str z.2.1 ts :: Ω.set i (sto p 1048576 T')) w, ?_, ?_⟩
  rotate_left
  · clear s s0
    rintro ⟨isl, tsl, _⟩ w1 ⟨ids, ts, T', hb, s⟩ _
    exact h isl tsl ids ts T' w1 hb s
  refine loop_by (fun x => x.2.2.1) list.length (fun n x w => n ≤ 30 ∧ ∃ (ids : List (Ty.int .i64).T) (ts : List Ty.str.T) (T' : List ET), TR T' ids ts ∧ TsOK ts ∧ ts.length ≤ n ∧ Grow T' ∧ Mks (list.take n) [] ts ∧ T'.length ≤ lim n ∧ Sp w0 (own (.int .i64) x.1 ids :: own .str x.2.1 ts :: Ω.set i (sto p 1048576 T')) w) rfl
    ⟨by omega, [], [], [], ⟨rfl, fun k id t h => by simp at h⟩, ⟨by simp, by simp⟩, by simp, .nil, rfl, by simp, (s0.nil .str).nil (.int .i64)⟩ ?_
  clear s s0
  rintro n ⟨isl, tsl, x, _⟩ w2 hn hx ⟨hn30, ids, ts, T1, hr, hts, hcnt, hg, hmk, hT, s⟩ _
  dsimp only at hx s ⊢
  subst hx
  have hend : n = list.length ∨ n = 30 → BG T1 list ids ts := fun he => ⟨hr, hts, hg, by
    rcases he with e | e
    · subst e
      rw [List.take_length] at hmk
      rw [List.take_of_length_le hn30]; exact hmk
    · subst e; exact hmk, by
    have := lim_le hn30
    omega⟩
  refine ⟨fun _ w => n < list.length ∧ n < 30 ∧ Sp w0 (own (.int .i64) isl ids :: own .str tsl ts :: Ω.set i (sto p 1048576 T1)) w, gd_dec (fun c1 => gd_dec (fun c2 => ⟨by omega, by omega, s⟩) (fun c2 => ⟨ids, ts, T1, hend (by omega), s⟩)) (fun c1 => ⟨ids, ts, T1, hend (by omega), s⟩), ?_⟩
  clear s
  rintro _ w3 ⟨hn', hn2, s⟩ _
  have hget := List.getElem?_eq_getElem hn'
  have hom := ho _ (List.getElem_mem hn')
  have htk : list.take (n + 1) = list.take n ++ [list[n]] := by rw [List.take_add_one, hget]; rfl
  generalize list[n] = o at hget hom htk
  have hil := hr.len
  have hTm := lim_le hn30
  have hTs := lim_succ n
  refine ⟨fun z w => ∃ (ids : List (Ty.int .i64).T) (ts : List Ty.str.T) (T' : List ET), TR T' ids ts ∧ TsOK ts ∧ ts.length ≤ n + 1 ∧ Grow T' ∧ Mks (list.take (n + 1)) [] ts ∧ T'.length ≤ lim (n + 1) ∧ Sp w0 (own (.int .i64) z.1 ids :: own .str z.2.1 ts :: Ω.set i (sto p 1048576 T')) w, ?_, fun z w hz _ => arith_i64 (by omega) (by omega) (loop_nx hn' ⟨by omega, hz⟩)⟩
  refine (hv _ _ (s.drop 2)).idx rfl hget rfl fun q hq => ⟨o, hq, top_plain_spec s (fun w' s => s.view 1 rfl) hts hom (fun t w4 hp ht s => gd_f rfl ?_) (fun t w4 hno s => gd_t rfl ⟨ids, ts, T1, hr, hts, by omega, hg, by rw [htk]; exact hmk.snoc (Or.inr ⟨hno, rfl⟩), by omega, s⟩)⟩
  refine (hv _ _ (s.drop 2)).idx rfl hget rfl fun q2 hq2 => ⟨o, hq2, ?_⟩
  have hi1 : (own (.int .i64) isl ids :: own .str tsl ts :: Ω.set i (sto p 1048576 T1))[i + 2]? = some (sto p 1048576 T1) := setGet hi
  refine top_made_spec s (i + 2) hi1 (fun w' T' s => s.view 0 rfl) (fun w' T' s => s.view 1 rfl) hts hr hp (by omega) fun T2 id d w5 hx2 hg2 hl2 nd s => ?_
  have s : Sp w0 (own (.int .i64) isl ids :: own .str tsl ts :: (Ω.set i (sto p 1048576 T1)).set i (sto p 1048576 T2)) w5 := s
  rw [List.set_set] at s
  have hpos := nd0_pos hg2 nd
  rw [bytesOf_len] at hpos
  refine JoinP.inl (nilIfc_nil (gd_f rfl ?_))
  intro _
  refine gd_f ?_ ?_
  · have : (decide ((0 : Int) < id)) = decide ((0 : Int) < (t.size : Int)) := by
      rw [decide_eq_decide]; omega
    rw [this]; simp
  refine s.allocK fun a18 w6 s => s.app 1 rfl ((s.lit (ty := .int .i64) 0 rfl [id] 1 rfl rfl).view 0 rfl) (by simp only [List.length_cons, List.length_nil]; omega) fun s19 w7 s => s.allocK fun a20 w8 s => s.app 3 rfl ((s.lit (ty := .str) 0 rfl [t] 1 rfl rfl).view 0 rfl) (by simp only [List.length_cons, List.length_nil]; omega) fun s21 w9 s => ?_
  refine ⟨ids ++ [id], ts ++ [t], T2, (hr.ext hx2).snoc nd, ⟨by rw [List.length_append]; simp only [List.length_cons, List.length_nil]; omega, fun u hu => ?_⟩, by rw [List.length_append]; simp only [List.length_cons, List.length_nil]; omega, hg2, by rw [htk]; exact hmk.snoc (Or.inl ⟨t, hp, ht, rfl⟩), by omega, s.drop 2⟩
  rcases List.mem_append.1 hu with hu | hu
  · exact hts.2 u hu
  · rw [List.mem_singleton] at hu
    subst hu; exact ht
theorem top_begin_spec {lsl : Sl} {list : List MkT} (s : Sp w0 Ω w) (hv : ∀ w', Sp w0 Ω w' → View yevergreentop_Make w' lsl list) (ho : ∀ o ∈ list, (mkText o).size ≤ 9223372036854775807) {K : Option Addr × Sl × Sl × Bool → World → Prop}
    (h : ∀ p isl tsl ids ts T' w', BG T' list ids ts → Sp w0 (own (.int .i64) isl ids :: own .str tsl ts :: sto p 1048576 T' :: Ω) w' → K (some p, isl, tsl, true) w') : C_top_begin lsl K w := by
  apply S_top_begin
  unfold F_top_begin
  refine intern_New_sp s fun p w1 s => gd_f rfl ?_
  have s : Sp w0 (sto p 1048576 [] :: Ω) w1 := s
  exact top_build_spec s 0 rfl (fun w' T' s => hv _ s.pop) ho fun isl tsl ids ts T' w2 hb s => h p isl tsl ids ts T' w2 hb s

/-! ### The fixed example -/
def ex1 : MkT := ((0 : Int), (0 : Int), (0 : Int), (0 : Int), (0 : Int), (⟨#[97, 98]⟩ : ByteArray))
def ex2 : MkT := ((1 : Int), (0 : Int), (0 : Int), (0 : Int), (0 : Int), (⟨#[]⟩ : ByteArray))
def ex3 : MkT := ((3 : Int), (1 : Int), (0 : Int), (1 : Int), (2 : Int), (⟨#[]⟩ : ByteArray))
theorem ex_texts {ts : List ByteArray} (h : Mks [ex1, ex2, ex3] [] ts) : ts.length = 3 ∧ ts[2]? = some (⟨#[98, 97]⟩ : ByteArray) := by
  obtain ⟨t1, h1, t2, h2, t3, h3, h4⟩ := h
  have h4 : ts = t3 := h4
  subst h4
  have e1 : t1 = [(⟨#[97, 98]⟩ : ByteArray)] := by
    rcases h1 with ⟨t, hp, _, e⟩ | ⟨hno, _⟩
    · cases hp with
      | text _ e2 _ => rw [e, e2]; rfl
      | join h _ _ => exact absurd rfl h
      | rep h _ _ => exact absurd rfl h
      | sect h _ _ => exact absurd rfl h
      | turn h _ _ => exact absurd rfl h
    · have := hno _ (.text (Or.inr rfl) rfl (by decide))
      exact absurd this (by decide)
  subst e1
  have k2 : atN (mkKind ex2) 6 = 1 := by decide
  have x2 : tsAt [(⟨#[97, 98]⟩ : ByteArray)] (mkA ex2) = ⟨#[97, 98]⟩ := rfl
  have y2 : tsAt [(⟨#[97, 98]⟩ : ByteArray)] (mkB ex2) = ⟨#[97, 98]⟩ := rfl
  have hne : [(⟨#[97, 98]⟩ : ByteArray)] ≠ [] := by simp
  have e2 : t2 = [(⟨#[97, 98]⟩ : ByteArray), (⟨#[97, 98, 97, 98]⟩ : ByteArray)] := by
    rcases h2 with ⟨t, hp, _, e⟩ | ⟨hno, _⟩
    · cases hp with
      | text h _ _ => rcases h with h | h
                      · omega
                      · exact absurd h hne
      | join _ _ e2 =>
        rw [x2, y2] at e2
        have : t = (⟨#[97, 98, 97, 98]⟩ : ByteArray) := bytesOf_inj (e2.trans (by decide))
        rw [e, this]; rfl
      | rep _ h _ => omega
      | sect _ h _ => omega
      | turn _ h _ => omega
    · have := hno (⟨#[97, 98, 97, 98]⟩ : ByteArray) (.join hne k2 (by rw [x2, y2]; decide))
      exact absurd this (by decide)
  subst e2
  have k3 : atN (mkKind ex3) 6 = 3 := by decide
  have x3 : tsAt [(⟨#[97, 98]⟩ : ByteArray), (⟨#[97, 98, 97, 98]⟩ : ByteArray)] (mkA ex3) = ⟨#[97, 98, 97, 98]⟩ := rfl
  have hne : [(⟨#[97, 98]⟩ : ByteArray), (⟨#[97, 98, 97, 98]⟩ : ByteArray)] ≠ [] := by simp
  rcases h3 with ⟨t, hp, _, e⟩ | ⟨hno, _⟩
  · cases hp with
    | text h _ _ => rcases h with h | h
                    · omega
                    · exact absurd h hne
    | join _ h _ => omega
    | rep _ h _ => omega
    | sect _ _ e2 =>
      rw [x3] at e2
      have : t = (⟨#[98, 97]⟩ : ByteArray) := bytesOf_inj (e2.trans (by decide))
      rw [e, this]
      exact ⟨rfl, rfl⟩
    | turn _ h _ => omega
  · have := hno (⟨#[98, 97]⟩ : ByteArray) (.sect hne k3 (by rw [x3]; decide))
    exact absurd this (by decide)
theorem top_stands_spec (s : Sp w0 Ω w) {K : Bool → World → Prop} (h : ∀ w', Sp w0 Ω w' → K true w') : C_top_stands K w := by
  apply S_top_stands
  unfold F_top_stands
  refine s.allocK fun a1 w1 s => ?_
  have s := s.lit (ty := yevergreentop_Make) 0 rfl [ex1, ex2, ex3] 3 rfl rfl
  refine top_begin_spec s (fun w' s => s.view 0 rfl) (fun o ho => ?_) fun p isl tsl ids ts T w2 hb s => ?_
  · simp at ho
    rcases ho with rfl | rfl | rfl <;> decide
  have hx := ex_texts hb.stp
  have hil := hb.tr.len
  have hi3 := (s.view 0 rfl).len
  obtain ⟨id, hid⟩ : ∃ id, ids[2]? = some id := ⟨_, List.getElem?_eq_getElem (by omega)⟩
  obtain ⟨d, nd⟩ := hb.tr.at_ 2 id _ hid hx.2
  have hlen := (nd.len hb.grow).1
  refine JoinP.inl (gd_f rfl (gd_f (by simp; omega) ((s.view 1 rfl).idx (n := 2) rfl hx.2 rfl fun q hq => ⟨_, hq, ?_⟩)))
  intro _
  refine gd_f (by simp) ((s.view 0 rfl).idx (n := 2) rfl hid rfl fun q2 hq2 => ⟨id, hq2, intern_Weight_k s 2 rfl ⟨nd.pos, nd.le⟩ fun w3 s => s.allocK fun a10 w4 s => s.st0 0 rfl rfl rfl fun w5 s => nilIfc_nil (gd_t rfl (s.ldi (x := (eAt T id).2.1.1) 0 0 rfl rfl ?_))⟩)
  have : ((eAt T id).2.1.1 == (2 : Int)) = true := by rw [hlen]; rfl
  rw [this]
  exact h _ (s.drop 5)

end Go.Proofs.YtcmncfglcjcmhaaGreat

/- top: WholeAccess. -/
set_option linter.unusedVariables false
set_option linter.unusedSimpArgs false
namespace Go.Proofs.YtcmncfglcjcmhaaGreat
open Go.Den

variable {w0 w : World} {Ω : List Ob} {most : Int} {T : List ET} {p : Addr}

theorem bstr_bytesOf (x : ByteArray) : bstr (bytesOf x) = x := by
  apply ByteArray.ext
  rw [bstr_data]
  unfold bytesOf
  rw [List.map_map]
  have : (fun n : Int => UInt8.ofNat n.toNat) ∘ (fun b : UInt8 => (b.toNat : Int)) = id := by
    funext b
    simp
  rw [this, List.map_id]
theorem bytesOf_get (x : ByteArray) {i : Nat} (h : i < x.size) : (bytesOf x)[i]? = some ((x[i].toNat : Nat) : Int) := by
  unfold bytesOf
  rw [List.getElem?_map, Array.getElem?_toList, Array.getElem?_eq_getElem (by exact h)]
  rfl

end Go.Proofs.YtcmncfglcjcmhaaGreat
