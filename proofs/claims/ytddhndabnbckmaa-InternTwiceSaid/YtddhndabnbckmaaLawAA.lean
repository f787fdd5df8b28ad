/- The fixed example of the layer, and the calls of no store. -/
import Derived.Test.YtddhndabnbckmaaSpecE
namespace Go.Proofs.Ytddhndabnbckmaa
open Go.Den

variable {w0 : World}

theorem ext_fresh {B B' : Nat → Prop} {w1 w' : World} (e : Ext w0 w1) (k : Step B B' w1 w') (hB : ∀ b, B b → w0.heap.size ≤ b) : Ext w0 w' :=
  ⟨Nat.le_trans e.size k.fr.size, fun b hb _ => by
    rw [k.fr.same b (Nat.lt_of_lt_of_le hb e.size) (fun h => by have := hB b h; omega), e.same b hb (fun h => h)], k.fr.pub.1.trans e.pub.1, k.fr.pub.2.1.trans e.pub.2.1, k.fr.pub.2.2.trans e.pub.2.2⟩

def aw1 : List ET := [mkLetter 97]
def aw2 : List ET := aw1 ++ [mkLetter 98]
def aw3 : List ET := aw2 ++ [mkPair aw2 1 2]
def aw4 : List ET := aw3 ++ [mkPower aw3 3 5]
theorem aw_1 : pLetter [] 4 97 = (aw1, (1, .nilIface)) := by kernel_rfl
theorem aw_2 : pLetter aw1 4 98 = (aw2, (2, .nilIface)) := by kernel_rfl
theorem aw_3 : pPair aw2 4 1 2 = (aw3, (3, .nilIface)) := by kernel_rfl
theorem aw_4 : pPower aw3 4 3 5 = (aw4, (4, .nilIface)) := by kernel_rfl
theorem aw_5 : pPower aw4 4 3 6 = (aw4, (0, errV 3)) := by kernel_rfl

theorem law10_awake_spec {K : Bool → World → Prop} (h : ∀ w', Ext w0 w' → K true w') : C_law10_awake K w0 := by
  apply S_law10_awake
  unfold F_law10_awake
  refine intern_New_spec fun p w1 B e1 hB st1 => gd_f rfl (intern_Letter_spec st1 (by decide) ?_)
  rw [if_neg (by decide), if_neg (by decide), aw_1]
  refine fun w2 B2 k2 st2 => intern_Letter_spec st2 (by decide) ?_
  rw [aw_2]
  refine fun w3 B3 k3 st3 => intern_Pair_spec st3 ?_
  rw [aw_3]
  refine fun w4 B4 k4 st4 => intern_Power_spec (by decide) st4 ?_
  rw [aw_4]
  refine fun w5 B5 k5 st5 => intern_Power_spec (by decide) st5 ?_
  rw [aw_5]
  refine fun w6 B6 k6 st6 => ?_
  have e6 : Ext w0 w6 := ext_fresh e1 ((((k2.trans k3).trans k4).trans k5).trans k6) hB
  refine gd_t rfl (gd_t rfl (gd_t rfl (gd_t rfl (nilIfc_nil (gd_t rfl (base_Is_err (by decide) (gd_t rfl (intern_Len_spec st6 (gd_t rfl (intern_Room_spec st6 fun w7 e7 => ?_)))))))))) 
  exact h _ (e6.trans e7)

theorem partV_int (cs : Array Value) (off : Nat) : partV P t_int cs off = cs[off]? := by
  have h1 : (P.underlying t_int).isSome = true := by kernel_rfl
  have h2 : isAggP P t_int = false := by kernel_rfl
  unfold partV
  rw [h2]
  cases hu : P.underlying t_int with
  | none => rw [hu] at h1; cases h1
  | some d => rfl
theorem nil_part {x : Int} (h0 : 0 ≤ x) (h8 : x < 8) : partV P t_int #[.int .i64 5, .int .i64 5, .int .i64 5, .int .i64 5, .int .i64 5, .int .i64 5, .int .i64 5, .int .i64 5] (x.toNat * 1) = some (val (.int .i64) (5 : Int)) := by
  rw [partV_int, Nat.mul_one]
  have hn : x.toNat < 8 := by omega
  generalize x.toNat = n at hn
  rcases n with _ | _ | _ | _ | _ | _ | _ | _ | n
  all_goals first | rfl | omega

theorem law10_InternNil_spec {b l k : Int} {s : Sl} {K : Bool → World → Prop} (h : ∀ w', Ext w0 w' → K true w') : C_law10_InternNil b l k s K w0 := by
  apply S_law10_InternNil
  unfold F_law10_InternNil
  refine law10_awake_spec fun w1 e1 => gd_f rfl (intern_Letter_nil (intern_Pair_nil (intern_Power_nil (intern_Rule_nil fun w5 e5 => ?_))))
  refine (((St.init w0).ext e1).ext e5).allocK fun a6 w6 s _ _ => s.st0 0 rfl (by rw [cells_length]; rfl) rfl fun w7 s _ => intern_Weight_nil fun w8 e8 => ?_
  refine (s.ext e8).allocK fun a8 w9 s _ _ => s.st0 0 rfl (by rw [cells_length]; rfl) rfl fun w10 s _ => intern_Depth_nil (intern_Import_nil (intern_Export_nil (intern_Find_nil fun w14 e14 => ?_)))
  have e := (s.ext e14).fr
  refine base_Num_err (base_Num_err (base_Num_err (base_Num_err (base_Num_err (base_Num_err (base_Num_err (base_Num_err ?_)))))))
  refine ⟨fun x w => 0 ≤ x.1 ∧ x.1 ≤ 8 ∧ w = w14, fun x _ => (8 - x.1).toNat, ⟨by decide, by decide, rfl⟩, ?_⟩
  rintro ⟨x, _⟩ w ⟨h0, h8, rfl⟩ _
  dsimp only at h0 h8 ⊢
  refine gd_dec (fun hlt => ⟨h0, hlt, 5, ?_, gd_f rfl (arith_i64 (by omega) (by omega) ⟨⟨?_, ?_, rfl⟩, ?_⟩)⟩) (fun _ => gd_t rfl (intern_Len_nil (gd_t rfl (intern_Room_nil (h _ e)))))
  · exact nil_part h0 hlt
  · omega
  · omega
  · omega

end Go.Proofs.Ytddhndabnbckmaa
