/- The walk of InternTwice. -/
import Derived.Test.YtddhndabnbckmaaLawBA
import Derived.Test.YtddhndabnbckmaaLawAD
namespace Go.Proofs.Ytddhndabnbckmaa
open Go.Den

variable {w0 : World}

theorem law10_few_spec {s : Sl} {K : Bool → World → Prop} (h : K (decide ((s.len : Int) ≤ 60)) w0) : C_law10_few s K w0 := by
  apply S_law10_few
  unfold F_law10_few
  exact h

theorem law10_InternTwice_spec {s : Sl} {ops : List OT} (hv : View yevergreenlaw10_Op w0 s ops) (ho : ∀ o ∈ ops, OpOK o) {K : Bool → World → Prop} (h : ∀ w', Ext w0 w' → K true w') : C_law10_InternTwice s K w0 := by
  apply S_law10_InternTwice
  unfold F_law10_InternTwice
  have hlen := hv.len
  refine ⟨fun x w => x.1 = decide (60 < (s.len : Int)) ∧ Ext w0 w, law10_awake_spec fun w1 e1 => gd_f rfl (law10_few_spec ⟨?_, e1⟩), ?_⟩
  · by_cases c : (s.len : Int) ≤ 60
    · rw [decide_eq_true c, decide_eq_false (by omega)]; rfl
    · rw [decide_eq_false c, decide_eq_true (by omega)]; rfl
  rintro ⟨x, _⟩ w1 ⟨hx, e1⟩ _
  dsimp only at hx ⊢
  by_cases c : 60 < (s.len : Int)
  · exact gd_t (by rw [hx]; exact decide_eq_true c) (law10_awake_spec fun w2 e2 => h _ (e1.trans e2))
  refine gd_f (by rw [hx]; exact decide_eq_false c) (intern_New_spec fun p w2 B e2 hB st2 => ?_)
  rw [if_neg (by decide), if_neg (by decide)] at st2
  have e02 := e1.trans e2
  have hB0 : ∀ b, B b → w0.heap.size ≤ b := fun b hb => Nat.le_trans e1.size (hB b hb)
  refine (St.start w2 st2.lt).allocK fun a w3 s3 eA ha => s3.st0 0 rfl rfl rfl fun w4 s4 fB => s4.ldp0 0 rfl rfl (gd_f rfl ?_)
  have st4 : Sto B w4 p 12 [] := (st2.ext eA).fr fB fun x hx e => by
    have := st2.lt x hx
    omega
  refine ⟨fun x w => ∃ (B' : Nat → Prop) (L : List ET) (n : Nat), x.1 = (n : Int) ∧ n ≤ ops.length ∧ St w2 B' [(a, [.pointer (some p)])] w ∧ Sto B' w p 12 L ∧ ∀ b, B' b → w0.heap.size ≤ b,
    fun x _ => (ops.length - x.1).toNat, ⟨B, [], 0, rfl, Nat.zero_le _, s4, st4, hB0⟩, ?_⟩
  rintro ⟨x, _⟩ w ⟨B1, L, n, hn, hnl, s5, st5, hB1⟩ _
  dsimp only at hn
  subst hn
  dsimp only
  have e0w : Ext w0 w := fresh_fr e02 s5.fr hB1
  refine gd_dec (fun hlt => ?_) (fun _ => h _ e0w)
  have hnlt : n < ops.length := by omega
  have hop : ops[n]? = some ops[n] := List.getElem?_eq_getElem hnlt
  have hok := ho _ (List.getElem_mem hnlt)
  generalize ops[n] = o at hop hok
  refine (hv.ext e0w).idx rfl hop rfl fun q hq => ⟨o, hq, s5.allocK fun a2 w6 s6 e6 ha2 => s6.st0 0 rfl rfl rfl fun w7 s7 f7 => s7.ld0 (ty := yevergreenlaw10_Op) (x := o) 0 rfl rfl ?_⟩
  have st7 : Sto B1 w7 p 12 L := (st5.ext e6).fr f7 fun x hx e => by
    have := st5.lt x hx
    omega
  refine law10_InternTwice_1_spec hok st7 (s7.at_ (i := 1) rfl) fun w8 B2 k8 st8 => ?_
  replace s7 := s7.stp k8 st8.lt
  have hB2 := k8.fresh hB1 (Nat.le_trans e0w.size (Nat.le_trans e6.size f7.size))
  refine s7.ldp0 1 rfl rfl (intern_Len_spec st8 (s7.ld0 (ty := yevergreenlaw10_Op) (x := o) 0 rfl rfl ?_))
  refine law10_InternTwice_1_spec hok st8 (s7.at_ (i := 1) rfl) fun w9 B3 k9 st9 => ?_
  have hs9 := Nat.le_trans (Nat.le_trans e0w.size (Nat.le_trans e6.size f7.size)) k8.fr.size
  replace s7 := s7.stp k9 st9.lt
  have hB3 := k9.fresh hB2 hs9
  rw [pOp_twice] at st9 ⊢
  have hl9 := st9.len
  refine ⟨fun x w => x.1 = false ∧ Ext w9 w, ?_, ?_⟩
  · refine gd_f (by simp) (base_Num_spec pOp_err (base_Num_spec pOp_err (gd_f (by simp) (s7.ldp0 1 rfl rfl (intern_Len_spec st9 (gd_f (by simp) (s7.ldp0 1 rfl rfl (intern_Room_spec st9 fun w10 e10 => arith_i64 (by omega) (by omega) ⟨?_, e10⟩))))))))
    simp; omega
  rintro ⟨x, _⟩ w10 ⟨hx, e10⟩ _
  refine gd_f hx (arith_i64 (by omega) (by omega) ⟨⟨B3, _, n + 1, by simp, hnlt, (s7.ext e10).tail, st9.ext e10, hB3⟩, ?_⟩)
  omega

end Go.Proofs.Ytddhndabnbckmaa
