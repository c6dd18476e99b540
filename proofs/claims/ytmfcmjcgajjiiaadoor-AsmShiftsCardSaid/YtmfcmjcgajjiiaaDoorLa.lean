import Derived.Test.YtmfcmjcgajjiiaaDoorS4
import Derived.Test.YtmfcmjcgajjiiaaDoorS5
import Derived.Test.YtmfcmjcgajjiiaaDoorS7
import Derived.Test.YtmfcmjcgajjiiaaDoorS8
import Derived.Test.YtmfcmjcgajjiiaaDoorOtext
import Derived.Lib.ItoaMem
import Derived.Lib.EndianBits
namespace Go.Proofs.YtmfcmjcgajjiiaaDoor.S
open Go.RowKit Go.Proofs.YtmfcmjcgajjiiaaDoorW.PrintWords Go.Proofs.YtmfcmjcgajjiiaaDoorW.PrintLast Go.Proofs.YtmfcmjcgajjiiaaDoorW.PrintMore
set_option linter.unusedVariables false
set_option linter.unusedSimpArgs false
/-- A field that is named, or not. -/
def regOk (n : Int) (named : Bool) : Prop := n = 0 ∨ (named = true ∧ 0 ≤ n ∧ n < 16)
instance (n : Int) (b : Bool) : Decidable (regOk n b) := by unfold regOk; infer_instance
/-- A right instruction, operation by operation. -/
def RightP (op a b c imm : Int) : Prop :=
  0 ≤ op ∧ op < 15 ∧
  (let s := shapeTab.getD op.toNat (⟨#[]⟩, false, false, false, false, false, false)
   regOk a s.2.1 ∧ regOk b s.2.2.1 ∧ regOk c s.2.2.2.1 ∧
   (if op = 4 then 1 ≤ imm ∧ imm ≤ 14 else if s.2.2.2.2.2.1 = true then 0 ≤ imm ∧ imm ≤ 2147483647 else if s.2.2.2.2.1 = true then -2147483648 ≤ imm ∧ imm ≤ 2147483647 else imm = 0))
instance (op a b c imm : Int) : Decidable (RightP op a b c imm) := by unfold RightP; infer_instance
theorem reg_eq (n : Int) (b : Bool) : inst_reg.f n b = some (decide (regOk n b)) := by
  unfold inst_reg.f regOk
  by_cases h : n = 0
  · simp [h]
  · cases b <;> simp [h]
    split <;> simp_all
    omega
theorem wrap32_eq (k : Nat) (x : Int) (h : -9223372036854775808 ≤ x ∧ x ≤ 9223372036854775807) : word_Wrap.f (k + 1) x 32 true = some ((x + 2147483648) % 4294967296 - 2147483648) := by
  unfold word_Wrap.f
  rw [if_neg (by decide), if_neg (by decide)]
  simp only [word_Wrap.j0]
  rw [if_neg (by decide), if_pos trivial]
  have e : wrap64 (64 - 32) = 32 := by decide +kernel
  rw [e, if_pos (by decide)]
  congr 1
  unfold shr shl
  have e2 : min (32 : Int).toNat (IntKind.bits .i64) = 32 := by decide
  rw [e2]
  have e3 : IntKind.wrap .i64 (x * 2 ^ 32) = wrap64 (x * 4294967296) := by
    rw [IntKind.wrap_i64, show (2 ^ 32 : Int) = 4294967296 by decide +kernel, wrap64]
  rw [e3]
  unfold wrap64
  omega
theorem fits_eq (k : Nat) (x : Int) (h : -9223372036854775808 ≤ x ∧ x ≤ 9223372036854775807) : word_Fits.f (k + 1) x 32 true = some (decide (-2147483648 ≤ x ∧ x ≤ 2147483647)) := by
  unfold word_Fits.f
  rw [wrap32_eq k x h]
  simp only [Option.bind_some]
  congr 1
  rw [Bool.eq_iff_iff]
  simp
  omega
theorem op_cases {op : Int} (h0 : 0 ≤ op) (h1 : op < 15) : op = 0 ∨ op = 1 ∨ op = 2 ∨ op = 3 ∨ op = 4 ∨ op = 5 ∨ op = 6 ∨ op = 7 ∨ op = 8 ∨ op = 9 ∨ op = 10 ∨ op = 11 ∨ op = 12 ∨ op = 13 ∨ op = 14 := by omega
set_option maxHeartbeats 2000000 in
theorem right_eq (k : Nat) (op a b c imm : Int) (h : -9223372036854775808 ≤ imm ∧ imm ≤ 9223372036854775807) : inst_Right.f (k + 2) op a b c imm = some (decide (RightP op a b c imm)) := by
  unfold inst_Right.f inst_shapeOf.f
  by_cases ho : 0 ≤ op ∧ op < 15
  · rw [if_pos ho]
    simp only [Option.bind_some, reg_eq]
    unfold RightP
    rcases op_cases ho.1 ho.2 with rfl | rfl | rfl | rfl | rfl | rfl | rfl | rfl | rfl | rfl | rfl | rfl | rfl | rfl | rfl <;>
      simp [shapeTab, inst_Right.j0, word_Known.f, fits_eq _ _ h, regOk] <;> (repeat' split) <;> (congr 1; rw [Bool.eq_iff_iff]; simp; omega)
  · rw [if_neg ho]
    simp [inst_Right.j0, RightP]
    omega
def I64 (n : Int) : Prop := -9223372036854775808 ≤ n ∧ n ≤ 9223372036854775807
theorem right_ge {k : Nat} (hk : 2 ≤ k) (op a b c imm : Int) (h : I64 imm) : inst_Right.f k op a b c imm = some (decide (RightP op a b c imm)) := by
  obtain ⟨j, rfl⟩ := Nat.exists_eq_add_of_le' hk
  exact right_eq j op a b c imm h
theorem addS_ge (b : Bool) (p s : ByteArray) (n : Int) : s.size ≤ (addS b p s n).size := by
  unfold addS
  split
  · simp only [ByteArray.size_append]; omega
  · omega
theorem textS_ge (nm : ByteArray) (sa sb sc si : Bool) (a b c imm : Int) : nm.size ≤ (textS nm sa sb sc si a b c imm).size := by
  unfold textS
  refine Nat.le_trans ?_ (addS_ge _ _ _ _)
  refine Nat.le_trans ?_ (addS_ge _ _ _ _)
  refine Nat.le_trans ?_ (addS_ge _ _ _ _)
  refine Nat.le_trans ?_ (addS_ge _ _ _ _)
  split
  · simp only [ByteArray.size_append]; omega
  · exact Nat.le_refl _
theorem text_right {k : Nat} (hk : 2 ≤ k) {op a b c imm : Int} (ha : I64 a) (hb : I64 b) (hc : I64 c) (hi : I64 imm) (h : RightP op a b c imm) : ∃ t, inst_Text.f k op a b c imm = some t ∧ 1 < t.size ∧ t = textS (shapeTab.getD op.toNat (⟨#[]⟩, false, false, false, false, false, false)).1 (shapeTab.getD op.toNat (⟨#[]⟩, false, false, false, false, false, false)).2.1 (shapeTab.getD op.toNat (⟨#[]⟩, false, false, false, false, false, false)).2.2.1 (shapeTab.getD op.toNat (⟨#[]⟩, false, false, false, false, false, false)).2.2.2.1 (shapeTab.getD op.toNat (⟨#[]⟩, false, false, false, false, false, false)).2.2.2.2.1 a b c imm := by
  unfold inst_Text.f
  rw [right_ge hk op a b c imm hi]
  simp only [Option.bind_some, h, decide_true, if_true]
  unfold textR inst_shapeOf.f
  rw [if_pos ⟨h.1, h.2.1⟩]
  simp only [Option.bind_some]
  have hs : (shapeTab.getD op.toNat (⟨#[]⟩, false, false, false, false, false, false)).2.2.2.2.2.2 = true ∧ (shapeTab.getD op.toNat (⟨#[]⟩, false, false, false, false, false, false)).1.size ≤ 10 ∧ 2 ≤ (shapeTab.getD op.toNat (⟨#[]⟩, false, false, false, false, false, false)).1.size := by
    rcases op_cases h.1 h.2.1 with rfl | rfl | rfl | rfl | rfl | rfl | rfl | rfl | rfl | rfl | rfl | rfl | rfl | rfl | rfl <;> decide +kernel
  rw [if_pos ⟨hs.1, hs.2.1, ha, hb, hc, hi⟩]
  exact ⟨_, rfl, Nat.lt_of_lt_of_le hs.2.2 (textS_ge _ _ _ _ _ _ _ _ _), rfl⟩
theorem text_wrong {k : Nat} (hk : 2 ≤ k) {op a b c imm : Int} (hi : I64 imm) (h : ¬ RightP op a b c imm) : inst_Text.f k op a b c imm = some ⟨#[63]⟩ := by
  unfold inst_Text.f
  rw [right_ge hk op a b c imm hi]
  simp [h]
theorem rreg_eq (n : Int) (b : Bool) : swageref02_reg.f n b = some (decide (regOk n b)) := by
  unfold swageref02_reg.f regOk
  by_cases h : n = 0
  · simp [h]
  · cases b <;> simp [h]
    split <;> simp_all <;> omega
theorem rfields_eq (k : Nat) (op : Int) (h0 : 0 ≤ op) (h1 : op < 15) : swageref02_fields.f (k + 4) op = some (let s := shapeTab.getD op.toNat (⟨#[]⟩, false, false, false, false, false, false); (s.2.1, s.2.2.1, s.2.2.2.1, s.2.2.2.2.1, true)) := by
  rcases op_cases h0 h1 with rfl | rfl | rfl | rfl | rfl | rfl | rfl | rfl | rfl | rfl | rfl | rfl | rfl | rfl | rfl <;>
    simp [swageref02_fields.f, swageref02_fields.j0, swageref02_fields.j1, swageref02_fields.j2, swageref02_fields.j3, shapeTab]
theorem rfields_no (k : Nat) (op : Int) (h : ¬ (0 ≤ op ∧ op < 15)) : swageref02_fields.f (k + 4) op = some (false, false, false, false, false) := by
  simp only [swageref02_fields.f, swageref02_fields.j0, swageref02_fields.j1, swageref02_fields.j2, swageref02_fields.j3, beq_iff_eq]
  repeat (rw [if_neg (by omega)])
set_option maxHeartbeats 2000000 in
theorem rright_eq (k : Nat) (op a b c imm : Int) : swageref02_Right.f (k + 4) op a b c imm = some (decide (RightP op a b c imm)) := by
  unfold swageref02_Right.f
  by_cases ho : 0 ≤ op ∧ op < 15
  · rw [rfields_eq k op ho.1 ho.2]
    simp only [Option.bind_some, rreg_eq]
    unfold RightP
    rcases op_cases ho.1 ho.2 with rfl | rfl | rfl | rfl | rfl | rfl | rfl | rfl | rfl | rfl | rfl | rfl | rfl | rfl | rfl <;>
      simp [shapeTab, swageref02_Right.j0, swageref01_Known.f, regOk] <;> (repeat' split) <;> (first | omega | (congr 1; rw [Bool.eq_iff_iff]; simp; omega) | (simp; omega))
  · rw [rfields_no k op ho]
    simp [swageref02_Right.j0, RightP]
    omega
theorem w64 (n : Int) (h : -9223372036854775808 ≤ n ∧ n ≤ 9223372036854775807) : wrap64 n = n := by
  unfold wrap64
  omega
theorem rjumps_eq (k : Nat) (op a b c imm : Int) (hi : -9223372036854775808 ≤ imm ∧ imm ≤ 9223372036854775807) : swageref02_Jumps.f (k + 5) op a b c imm = inst_Jumps.f (k + 5) op a b c imm := by
  unfold swageref02_Jumps.f inst_Jumps.f
  rw [rright_eq (k + 1), right_eq (k + 3) op a b c imm hi]
  simp only [Option.bind_some]
  by_cases h : RightP op a b c imm
  · have hs : inst_shapeOf.f op = some (shapeTab.getD op.toNat (⟨#[]⟩, false, false, false, false, false, false)) := by
      unfold inst_shapeOf.f
      rw [if_pos ⟨h.1, h.2.1⟩]
    rw [hs]
    simp only [h, decide_true, if_true, Option.bind_some]
    rcases op_cases h.1 h.2.1 with rfl | rfl | rfl | rfl | rfl | rfl | rfl | rfl | rfl | rfl | rfl | rfl | rfl | rfl | rfl <;> simp [shapeTab]
  · obtain ⟨t, ht⟩ : ∃ t, inst_shapeOf.f op = some t := by
      unfold inst_shapeOf.f
      split <;> exact ⟨_, rfl⟩
    rw [ht]
    simp only [h, decide_false, Option.bind_some]
    (repeat' split) <;> simp_all
theorem rreg_in {n : Int} {b : Bool} (h : regOk n b) : 0 ≤ n ∧ n < 16 := by
  rcases h with rfl | ⟨_, h⟩
  · omega
  · exact h
theorem imm_in {op a b c imm : Int} (h : RightP op a b c imm) : -2147483648 ≤ imm ∧ imm ≤ 2147483647 := by
  have := h.2.2.2.2.2
  split at this
  · omega
  · split at this
    · omega
    · split at this <;> omega
theorem cat_list (x y : List UInt8) : (⟨x.toArray⟩ : ByteArray) ++ ⟨y.toArray⟩ = ⟨(x ++ y).toArray⟩ := by
  apply ByteArray.ext
  simp
theorem dig_fin : ∀ d : Fin 10, strOfNums [(wrap64 (48 + (d.val : Int))) % 256] = ⟨[UInt8.ofNat (48 + d.val)].toArray⟩ := by decide +kernel
theorem dig_eq {d : Nat} (h : d < 10) : strOfNums [(wrap64 (48 + (d : Int))) % 256] = ⟨[UInt8.ofNat (48 + d)].toArray⟩ := dig_fin ⟨d, h⟩
theorem number_nat : ∀ (k u : Nat), u < 10 ^ (k + 1) → u < 9223372036854775808 → swageref02_number.f (k + 1) (u : Int) = some ⟨(Lib.decDigits u).toArray⟩
  | k, u, h, hb => by
    have hm : Int.tmod (u : Int) 10 = ((u % 10 : Nat) : Int) := by rw [Int.tmod_eq_emod_of_nonneg (by omega)]; omega
    have hd : Int.tdiv (u : Int) 10 = ((u / 10 : Nat) : Int) := by rw [Int.tdiv_eq_ediv_of_nonneg (by omega)]; omega
    unfold swageref02_number.f
    simp only [Option.bind_some]
    rw [if_neg (by omega), hm, hd, dig_eq (by omega), Lib.decDigits]
    by_cases h1 : u < 10
    · rw [if_pos (by omega), dif_pos h1, Nat.mod_eq_of_lt h1]
    · rw [if_neg (by omega), dif_neg h1]
      have hw : wrap64 ((u / 10 : Nat) : Int) = ((u / 10 : Nat) : Int) := w64 _ (by omega)
      rw [hw]
      cases k with
      | zero => simp at h; omega
      | succ k =>
        rw [number_nat k (u / 10) (by rw [Nat.pow_succ] at h; omega) (by omega)]
        simp only [Option.bind_some]
        have hz : (⟨(Lib.decDigits (u / 10)).toArray⟩ : ByteArray).size ≤ 20 := by
          show (Lib.decDigits (u / 10)).length ≤ 20
          rw [Lib.decDigits_length]
          exact Lib.nDigits_le20 _ (by omega)
        have hz1 : (⟨[UInt8.ofNat (48 + u % 10)].toArray⟩ : ByteArray).size = 1 := rfl
        rw [if_pos (by omega), cat_list]
theorem number_eq (k : Nat) (n : Int) (h : -2147483648 ≤ n ∧ n ≤ 2147483647) : swageref02_number.f (k + 12) n = some (itoaB n) := by
  unfold itoaB Lib.itoa
  by_cases hn : n < 0
  · rw [if_pos hn]
    have hw : wrap64 (-n) = ((n.natAbs : Nat) : Int) := by rw [w64 _ (by omega)]; omega
    have hp : (10 : Nat) ^ 10 ≤ 10 ^ (k + 10 + 1) := Nat.pow_le_pow_right (by decide) (by omega)
    show swageref02_number.f (k + 11 + 1) n = _
    unfold swageref02_number.f
    rw [if_pos hn, hw, number_nat (k + 10) n.natAbs (by omega) (by omega)]
    simp only [Option.bind_some]
    have hz : (⟨(Lib.decDigits n.natAbs).toArray⟩ : ByteArray).size ≤ 20 := by
      show (Lib.decDigits n.natAbs).length ≤ 20
      rw [Lib.decDigits_length]
      exact Lib.nDigits_le20 _ (by omega)
    rw [if_pos (by omega), show (⟨#[45]⟩ : ByteArray) = ⟨[45].toArray⟩ from rfl, cat_list]
    rfl
  · rw [if_neg hn]
    obtain ⟨u, rfl⟩ := Int.eq_ofNat_of_zero_le (by omega : 0 ≤ n)
    have hp : (10 : Nat) ^ 10 ≤ 10 ^ (k + 11 + 1) := Nat.pow_le_pow_right (by decide) (by omega)
    rw [number_nat (k + 11) u (by omega) (by omega)]
    simp
end Go.Proofs.YtmfcmjcgajjiiaaDoor.S
