import Derived.Test.YtfdkhahpjbikiaaDoorS3
import Derived.Test.YtfdkhahpjbikiaaDoorS5
import Derived.Test.YtfdkhahpjbikiaaDoorS6
import Derived.Test.YtfdkhahpjbikiaaDoorOtext
import Derived.Test.YtfdkhahpjbikiaaDoorOdec
import Derived.Lib.EndianBits
import Derived.Lib.ItoaMem
namespace Go.Proofs.YtfdkhahpjbikiaaDoor.S
open Go.RowKit Go.Proofs.YtfdkhahpjbikiaaDoorW.PrintWords Go.Proofs.YtfdkhahpjbikiaaDoorW.PrintLast Go.Proofs.YtfdkhahpjbikiaaDoorW.PrintMore
set_option linter.unusedVariables false
set_option linter.unusedSimpArgs false
/-- A field that is named, or not. -/
def regOk (n : Int) (named : Bool) : Prop := n = 0 ∨ (named = true ∧ 0 ≤ n ∧ n < 16)
instance (n : Int) (b : Bool) : Decidable (regOk n b) := by unfold regOk; infer_instance
/-- A right instruction, operation by operation. -/
def RightP (op a b c imm : Int) : Prop :=
  0 ≤ op ∧ op < 15 ∧
  (let s := shapeTab.getD op.toNat (⟨#[]⟩, false, false, false, false, false, false)
   regOk a s.2.1 ∧ regOk b s.2.2.1 ∧ regOk c s.2.2.2.1 ∧
   (if op = 4 then 1 ≤ imm ∧ imm ≤ 14 else if s.2.2.2.2.2.1 = true then 0 ≤ imm ∧ imm ≤ 2147483647 else if s.2.2.2.2.1 = true then -2147483648 ≤ imm ∧ imm ≤ 2147483647 else imm = 0))
instance (op a b c imm : Int) : Decidable (RightP op a b c imm) := by unfold RightP; infer_instance
theorem reg_eq (n : Int) (b : Bool) : inst_reg.f n b = some (decide (regOk n b)) := by
  unfold inst_reg.f regOk
  by_cases h : n = 0
  · simp [h]
  · cases b <;> simp [h]
    split <;> simp_all
    omega
theorem wrap32_eq (k : Nat) (x : Int) (h : -9223372036854775808 ≤ x ∧ x ≤ 9223372036854775807) : word_Wrap.f (k + 1) x 32 true = some ((x + 2147483648) % 4294967296 - 2147483648) := by
  unfold word_Wrap.f
  rw [if_neg (by decide), if_neg (by decide)]
  simp only [word_Wrap.j0]
  rw [if_neg (by decide), if_pos trivial]
  have e : wrap64 (64 - 32) = 32 := by decide +kernel
  rw [e, if_pos (by decide)]
  congr 1
  unfold shr shl
  have e2 : min (32 : Int).toNat (IntKind.bits .i64) = 32 := by decide
  rw [e2]
  have e3 : IntKind.wrap .i64 (x * 2 ^ 32) = wrap64 (x * 4294967296) := by
    rw [IntKind.wrap_i64, show (2 ^ 32 : Int) = 4294967296 by decide +kernel, wrap64]
  rw [e3]
  unfold wrap64
  omega
theorem fits_eq (k : Nat) (x : Int) (h : -9223372036854775808 ≤ x ∧ x ≤ 9223372036854775807) : word_Fits.f (k + 1) x 32 true = some (decide (-2147483648 ≤ x ∧ x ≤ 2147483647)) := by
  unfold word_Fits.f
  rw [wrap32_eq k x h]
  simp only [Option.bind_some]
  congr 1
  rw [Bool.eq_iff_iff]
  simp
  omega
theorem op_cases {op : Int} (h0 : 0 ≤ op) (h1 : op < 15) : op = 0 ∨ op = 1 ∨ op = 2 ∨ op = 3 ∨ op = 4 ∨ op = 5 ∨ op = 6 ∨ op = 7 ∨ op = 8 ∨ op = 9 ∨ op = 10 ∨ op = 11 ∨ op = 12 ∨ op = 13 ∨ op = 14 := by omega
set_option maxHeartbeats 2000000 in
theorem right_eq (k : Nat) (op a b c imm : Int) (h : -9223372036854775808 ≤ imm ∧ imm ≤ 9223372036854775807) : inst_Right.f (k + 2) op a b c imm = some (decide (RightP op a b c imm)) := by
  unfold inst_Right.f inst_shapeOf.f
  by_cases ho : 0 ≤ op ∧ op < 15
  · rw [if_pos ho]
    simp only [Option.bind_some, reg_eq]
    unfold RightP
    rcases op_cases ho.1 ho.2 with rfl | rfl | rfl | rfl | rfl | rfl | rfl | rfl | rfl | rfl | rfl | rfl | rfl | rfl | rfl <;>
      simp [shapeTab, inst_Right.j0, word_Known.f, fits_eq _ _ h, regOk] <;> (repeat' split) <;> (congr 1; rw [Bool.eq_iff_iff]; simp; omega)
  · rw [if_neg ho]
    simp [inst_Right.j0, RightP]
    omega
end Go.Proofs.YtfdkhahpjbikiaaDoor.S
namespace Go.Proofs.YtfdkhahpjbikiaaDoor.S
open Go.RowKit Go.Proofs.YtfdkhahpjbikiaaDoorW.PrintWords Go.Proofs.YtfdkhahpjbikiaaDoorW.PrintLast Go.Proofs.YtfdkhahpjbikiaaDoorW.PrintMore
set_option linter.unusedVariables false
set_option linter.unusedSimpArgs false
def I64 (n : Int) : Prop := -9223372036854775808 ≤ n ∧ n ≤ 9223372036854775807
theorem right_ge {k : Nat} (hk : 2 ≤ k) (op a b c imm : Int) (h : I64 imm) : inst_Right.f k op a b c imm = some (decide (RightP op a b c imm)) := by
  obtain ⟨j, rfl⟩ := Nat.exists_eq_add_of_le' hk
  exact right_eq j op a b c imm h
theorem addS_ge (b : Bool) (p s : ByteArray) (n : Int) : s.size ≤ (addS b p s n).size := by
  unfold addS
  split
  · simp only [ByteArray.size_append]; omega
  · omega
theorem textS_ge (nm : ByteArray) (sa sb sc si : Bool) (a b c imm : Int) : nm.size ≤ (textS nm sa sb sc si a b c imm).size := by
  unfold textS
  refine Nat.le_trans ?_ (addS_ge _ _ _ _)
  refine Nat.le_trans ?_ (addS_ge _ _ _ _)
  refine Nat.le_trans ?_ (addS_ge _ _ _ _)
  refine Nat.le_trans ?_ (addS_ge _ _ _ _)
  split
  · simp only [ByteArray.size_append]; omega
  · exact Nat.le_refl _
theorem text_right {k : Nat} (hk : 2 ≤ k) {op a b c imm : Int} (ha : I64 a) (hb : I64 b) (hc : I64 c) (hi : I64 imm) (h : RightP op a b c imm) : ∃ t, inst_Text.f k op a b c imm = some t ∧ 1 < t.size ∧ t = textS (shapeTab.getD op.toNat (⟨#[]⟩, false, false, false, false, false, false)).1 (shapeTab.getD op.toNat (⟨#[]⟩, false, false, false, false, false, false)).2.1 (shapeTab.getD op.toNat (⟨#[]⟩, false, false, false, false, false, false)).2.2.1 (shapeTab.getD op.toNat (⟨#[]⟩, false, false, false, false, false, false)).2.2.2.1 (shapeTab.getD op.toNat (⟨#[]⟩, false, false, false, false, false, false)).2.2.2.2.1 a b c imm := by
  unfold inst_Text.f
  rw [right_ge hk op a b c imm hi]
  simp only [Option.bind_some, h, decide_true, if_true]
  unfold textR inst_shapeOf.f
  rw [if_pos ⟨h.1, h.2.1⟩]
  simp only [Option.bind_some]
  have hs : (shapeTab.getD op.toNat (⟨#[]⟩, false, false, false, false, false, false)).2.2.2.2.2.2 = true ∧ (shapeTab.getD op.toNat (⟨#[]⟩, false, false, false, false, false, false)).1.size ≤ 10 ∧ 2 ≤ (shapeTab.getD op.toNat (⟨#[]⟩, false, false, false, false, false, false)).1.size := by
    rcases op_cases h.1 h.2.1 with rfl | rfl | rfl | rfl | rfl | rfl | rfl | rfl | rfl | rfl | rfl | rfl | rfl | rfl | rfl <;> decide +kernel
  rw [if_pos ⟨hs.1, hs.2.1, ha, hb, hc, hi⟩]
  exact ⟨_, rfl, Nat.lt_of_lt_of_le hs.2.2 (textS_ge _ _ _ _ _ _ _ _ _), rfl⟩
theorem text_wrong {k : Nat} (hk : 2 ≤ k) {op a b c imm : Int} (hi : I64 imm) (h : ¬ RightP op a b c imm) : inst_Text.f k op a b c imm = some ⟨#[63]⟩ := by
  unfold inst_Text.f
  rw [right_ge hk op a b c imm hi]
  simp [h]
end Go.Proofs.YtfdkhahpjbikiaaDoor.S
namespace Go.Proofs.YtfdkhahpjbikiaaDoor.S
open Go.RowKit Go.Proofs.YtfdkhahpjbikiaaDoorW.PrintWords Go.Proofs.YtfdkhahpjbikiaaDoorW.PrintLast Go.Proofs.YtfdkhahpjbikiaaDoorW.PrintMore
set_option linter.unusedVariables false
set_option linter.unusedSimpArgs false
theorem rreg_eq (n : Int) (b : Bool) : swageref02_reg.f n b = some (decide (regOk n b)) := by
  unfold swageref02_reg.f regOk
  by_cases h : n = 0
  · simp [h]
  · cases b <;> simp [h]
    split <;> simp_all <;> omega
theorem rfields_eq (k : Nat) (op : Int) (h0 : 0 ≤ op) (h1 : op < 15) : swageref02_fields.f (k + 4) op = some (let s := shapeTab.getD op.toNat (⟨#[]⟩, false, false, false, false, false, false); (s.2.1, s.2.2.1, s.2.2.2.1, s.2.2.2.2.1, true)) := by
  rcases op_cases h0 h1 with rfl | rfl | rfl | rfl | rfl | rfl | rfl | rfl | rfl | rfl | rfl | rfl | rfl | rfl | rfl <;>
    simp [swageref02_fields.f, swageref02_fields.j0, swageref02_fields.j1, swageref02_fields.j2, swageref02_fields.j3, shapeTab]
theorem rfields_no (k : Nat) (op : Int) (h : ¬ (0 ≤ op ∧ op < 15)) : swageref02_fields.f (k + 4) op = some (false, false, false, false, false) := by
  simp only [swageref02_fields.f, swageref02_fields.j0, swageref02_fields.j1, swageref02_fields.j2, swageref02_fields.j3, beq_iff_eq]
  repeat (rw [if_neg (by omega)])
set_option maxHeartbeats 2000000 in
theorem rright_eq (k : Nat) (op a b c imm : Int) : swageref02_Right.f (k + 4) op a b c imm = some (decide (RightP op a b c imm)) := by
  unfold swageref02_Right.f
  by_cases ho : 0 ≤ op ∧ op < 15
  · rw [rfields_eq k op ho.1 ho.2]
    simp only [Option.bind_some, rreg_eq]
    unfold RightP
    rcases op_cases ho.1 ho.2 with rfl | rfl | rfl | rfl | rfl | rfl | rfl | rfl | rfl | rfl | rfl | rfl | rfl | rfl | rfl <;>
      simp [shapeTab, swageref02_Right.j0, swageref01_Known.f, regOk] <;> (repeat' split) <;> (first | omega | (congr 1; rw [Bool.eq_iff_iff]; simp; omega) | (simp; omega))
  · rw [rfields_no k op ho]
    simp [swageref02_Right.j0, RightP]
    omega
theorem w64 (n : Int) (h : -9223372036854775808 ≤ n ∧ n ≤ 9223372036854775807) : wrap64 n = n := by
  unfold wrap64
  omega
theorem rreg_in {n : Int} {b : Bool} (h : regOk n b) : 0 ≤ n ∧ n < 16 := by
  rcases h with rfl | ⟨_, h⟩
  · omega
  · exact h
theorem or16_fin : ∀ a b : Fin 16, Go.bits .or .i64 (wrap64 ((a.val : Int) * 16)) (b.val : Int) = (a.val : Int) * 16 + b.val := by decide +kernel
theorem or16 {a b : Int} (ha : 0 ≤ a ∧ a < 16) (hb : 0 ≤ b ∧ b < 16) : Go.bits .or .i64 (wrap64 (a * 16)) b = a * 16 + b := by
  have := or16_fin ⟨a.toNat, by omega⟩ ⟨b.toNat, by omega⟩
  simpa [Int.toNat_of_nonneg ha.1, Int.toNat_of_nonneg hb.1] using this
/-- The eight bytes of a right instruction. -/
def bytes8 (op a b c imm : Int) : List Int := [op, a * 16 + b, c, 0, imm % 256, imm / 256 % 256, imm / 65536 % 256, imm / 16777216 % 256]
theorem encode_eq (k : Nat) (op a b c imm : Int) (hi : -9223372036854775808 ≤ imm ∧ imm ≤ 9223372036854775807) : inst_Encode.f (k + 6) op a b c imm = if RightP op a b c imm then some (bytes8 op a b c imm, 0) else some ([], 1) := by
  unfold inst_Encode.f
  rw [right_eq (k + 4) op a b c imm hi]
  simp only [Option.bind_some, decide_eq_true_eq]
  by_cases h : RightP op a b c imm
  · have ha := rreg_in h.2.2.1
    have hb := rreg_in h.2.2.2.1
    have hc := rreg_in h.2.2.2.2.1
    have ho := h.1
    have ho' := h.2.1
    rw [if_pos h, if_pos h, or16 ha hb]
    have s0 : shr .i64 imm (wrap64 (8 * 0)) = imm := by
      have e : wrap64 (8 * 0) = 0 := by decide +kernel
      rw [e]; unfold shr; rw [show (2 : Int) ^ min (Int.toNat 0) (IntKind.bits .i64) = 1 by decide +kernel]; omega
    have s1 : shr .i64 imm (wrap64 (8 * 1)) = imm / 256 := by
      have e : wrap64 (8 * 1) = 8 := by decide +kernel
      rw [e]; unfold shr; rw [show (2 : Int) ^ min (Int.toNat 8) (IntKind.bits .i64) = 256 by decide +kernel]
    have s2 : shr .i64 imm (wrap64 (8 * 2)) = imm / 65536 := by
      have e : wrap64 (8 * 2) = 16 := by decide +kernel
      rw [e]; unfold shr; rw [show (2 : Int) ^ min (Int.toNat 16) (IntKind.bits .i64) = 65536 by decide +kernel]
    have s3 : shr .i64 imm (wrap64 (8 * 3)) = imm / 16777216 := by
      have e : wrap64 (8 * 3) = 24 := by decide +kernel
      rw [e]; unfold shr; rw [show (2 : Int) ^ min (Int.toNat 24) (IntKind.bits .i64) = 16777216 by decide +kernel]
    have g0 : 0 ≤ wrap64 (8 * 0) := by decide +kernel
    have g1 : 0 ≤ wrap64 (8 * 1) := by decide +kernel
    have g2 : 0 ≤ wrap64 (8 * 2) := by decide +kernel
    have g3 : 0 ≤ wrap64 (8 * 3) := by decide +kernel
    have i0 : wrap64 (0 + 1) = 1 := by decide +kernel
    have i1 : wrap64 (1 + 1) = 2 := by decide +kernel
    have i2 : wrap64 (2 + 1) = 3 := by decide +kernel
    have i3 : wrap64 (3 + 1) = 4 := by decide +kernel
    have l0 : ∀ j (l : List Int) (i n : Int), i < 4 → 0 ≤ wrap64 (8 * i) → wrap64 (i + 1) = n → l.length < 100 → inst_Encode.l0 (j + 1) l i op a b c imm = inst_Encode.l0 j (l ++ [shr .i64 imm (wrap64 (8 * i)) % 256]) n op a b c imm := by
      intro j l i n h1 h2 h3 h4
      simp only [inst_Encode.l0]
      rw [if_pos h1, if_pos h2, if_pos (by omega), h3]
    rw [l0 (k + 5) _ 0 1 (by decide) g0 i0 (by simp), l0 (k + 4) _ 1 2 (by decide) g1 i1 (by simp), l0 (k + 3) _ 2 3 (by decide) g2 i2 (by simp), l0 (k + 2) _ 3 4 (by decide) g3 i3 (by simp)]
    simp only [inst_Encode.l0]
    rw [if_neg (by decide), s0, s1, s2, s3]
    unfold bytes8
    simp
    omega
  · rw [if_neg h, if_neg h]
theorem imm_in {op a b c imm : Int} (h : RightP op a b c imm) : -2147483648 ≤ imm ∧ imm ≤ 2147483647 := by
  have := h.2.2.2.2.2
  split at this
  · omega
  · split at this
    · omega
    · split at this <;> omega
theorem rencode_eq (k : Nat) (op a b c imm : Int) : swageref02_Encode.f (k + 6) op a b c imm = if RightP op a b c imm then some (bytes8 op a b c imm, 0) else some ([], 1) := by
  unfold swageref02_Encode.f
  rw [rright_eq (k + 2)]
  simp only [Option.bind_some, decide_eq_true_eq]
  by_cases h : RightP op a b c imm
  · have ha := rreg_in h.2.2.1
    have hb := rreg_in h.2.2.2.1
    have hc := rreg_in h.2.2.2.2.1
    have hi := imm_in h
    have ho := h.1
    have ho' := h.2.1
    rw [if_pos h, if_pos h]
    have w0 : wrap64 (16 * a) = 16 * a := w64 _ (by omega)
    have w1 : wrap64 (16 * a + b) = 16 * a + b := w64 _ (by omega)
    split
    · have w2 : wrap64 (imm + 4294967296) = imm + 4294967296 := w64 _ (by omega)
      rw [w0, w1, w2, Int.tmod_eq_emod_of_nonneg (by omega), Int.tdiv_eq_ediv_of_nonneg (by omega), Int.tdiv_eq_ediv_of_nonneg (by omega), Int.tdiv_eq_ediv_of_nonneg (by omega), w64 _ (by omega), w64 _ (by omega), w64 _ (by omega), Int.tmod_eq_emod_of_nonneg (by omega), Int.tmod_eq_emod_of_nonneg (by omega)]
      unfold bytes8
      simp
      omega
    · rw [w0, w1, Int.tmod_eq_emod_of_nonneg (by omega), Int.tdiv_eq_ediv_of_nonneg (by omega), Int.tdiv_eq_ediv_of_nonneg (by omega), Int.tdiv_eq_ediv_of_nonneg (by omega), w64 _ (by omega), w64 _ (by omega), w64 _ (by omega), Int.tmod_eq_emod_of_nonneg (by omega), Int.tmod_eq_emod_of_nonneg (by omega)]
      unfold bytes8
      simp
      omega
  · rw [if_neg h, if_neg h]
end Go.Proofs.YtfdkhahpjbikiaaDoor.S
namespace Go.Proofs.YtfdkhahpjbikiaaDoor.S
open Go.RowKit Go.Proofs.YtfdkhahpjbikiaaDoorW.PrintWords Go.Proofs.YtfdkhahpjbikiaaDoorW.PrintLast Go.Proofs.YtfdkhahpjbikiaaDoorW.PrintMore
set_option linter.unusedVariables false
set_option linter.unusedSimpArgs false
/-! ### The bytes -/
def Byte (x : Int) : Prop := 0 ≤ x ∧ x ≤ 255
theorem or_sum (i : Nat) (y x : Int) (hy0 : 0 ≤ y) (hy : y < 2 ^ i) (hy1 : y < 2 ^ 63) (hx0 : 0 ≤ x) (hx : x % 2 ^ i = 0) (hx1 : x < 2 ^ 63) : bits .or .i64 y x = y + x :=
  bits_join_low .i64 63 (by decide) (fun n h0 h1 => by rw [IntKind.wrap_i64]; omega) i y x hy0 hy hy1 hx0 hx hx1
theorem decImm_eq {b4 b5 b6 b7 : Int} (h4 : Byte b4) (h5 : Byte b5) (h6 : Byte b6) (h7 : Byte b7) : decImm b4 b5 b6 b7 = b4 + b5 * 256 + b6 * 65536 + b7 * 16777216 := by
  unfold Byte at h4 h5 h6 h7
  unfold decImm
  rw [or_sum 0 0 b4 (by omega) (by omega) (by omega) (by omega) (by omega) (by omega), Int.zero_add,
    or_sum 8 b4 (b5 * 256) (by omega) (by omega) (by omega) (by omega) (by omega) (by omega),
    or_sum 16 (b4 + b5 * 256) (b6 * 65536) (by omega) (by omega) (by omega) (by omega) (by omega) (by omega),
    or_sum 24 (b4 + b5 * 256 + b6 * 65536) (b7 * 16777216) (by omega) (by omega) (by omega) (by omega) (by omega) (by omega)]
theorem bytes8_byte {op a b c imm : Int} (h : RightP op a b c imm) : ∀ x ∈ bytes8 op a b c imm, Byte x := by
  have ha := rreg_in h.2.2.1
  have hb := rreg_in h.2.2.2.1
  have hc := rreg_in h.2.2.2.2.1
  have ho := h.1
  have ho' := h.2.1
  unfold bytes8 Byte
  intro x hx
  simp only [List.mem_cons, List.not_mem_nil, or_false] at hx
  rcases hx with rfl | rfl | rfl | rfl | rfl | rfl | rfl | rfl <;> omega
theorem bytes8_inj {op a b c imm op' a' b' c' imm' : Int} (h : RightP op a b c imm) (h' : RightP op' a' b' c' imm') (he : bytes8 op a b c imm = bytes8 op' a' b' c' imm') : op = op' ∧ a = a' ∧ b = b' ∧ c = c' ∧ imm = imm' := by
  have ha := rreg_in h.2.2.1
  have hb := rreg_in h.2.2.2.1
  have ha' := rreg_in h'.2.2.1
  have hb' := rreg_in h'.2.2.2.1
  have hi := imm_in h
  have hi' := imm_in h'
  unfold bytes8 at he
  simp only [List.cons.injEq, and_true, true_and] at he
  omega
/-- What eight bytes are read as: wrong, and nothing; or a right instruction, whose bytes they are. -/
theorem decode_law (k : Nat) (l : List Int) (hl : l.length ≤ 9223372036854775807) (hb : ∀ x ∈ l, Byte x) :
    (∃ a b c d i, inst_Decode.f (k + 2) l = some (a, b, c, d, i, 0) ∧ RightP a b c d i ∧ bytes8 a b c d i = l) ∨ inst_Decode.f (k + 2) l = some (0, 0, 0, 0, 0, 2) := by
  unfold inst_Decode.f
  by_cases h8 : l.length = 8 ∧ rd l 3 = 0
  · rw [if_pos h8, if_pos (show ∀ x ∈ l, 0 ≤ x ∧ x ≤ 255 from hb)]
    match l, h8, hb with
    | [b0, b1, b2, b3, b4, b5, b6, b7], h8, hb =>
      obtain ⟨_, h3⟩ := h8
      have h3 : b3 = 0 := h3
      subst h3
      have g0 := hb b0 (by simp)
      have g1 := hb b1 (by simp)
      have g2 := hb b2 (by simp)
      have g4 := hb b4 (by simp)
      have g5 := hb b5 (by simp)
      have g6 := hb b6 (by simp)
      have g7 := hb b7 (by simp)
      have e : decImm (rd [b0, b1, b2, 0, b4, b5, b6, b7] 4) (rd [b0, b1, b2, 0, b4, b5, b6, b7] 5) (rd [b0, b1, b2, 0, b4, b5, b6, b7] 6) (rd [b0, b1, b2, 0, b4, b5, b6, b7] 7) = b4 + b5 * 256 + b6 * 65536 + b7 * 16777216 := decImm_eq g4 g5 g6 g7
      have r0 : rd [b0, b1, b2, 0, b4, b5, b6, b7] 0 = b0 := rfl
      have r1 : rd [b0, b1, b2, 0, b4, b5, b6, b7] 1 = b1 := rfl
      have r2 : rd [b0, b1, b2, 0, b4, b5, b6, b7] 2 = b2 := rfl
      unfold Byte at g0 g1 g2 g4 g5 g6 g7
      rw [e, r0, r1, r2, wrap32_eq (k + 1) _ (by omega)]
      simp only [Option.bind_some]
      rw [right_eq k _ _ _ _ _ (by omega)]
      simp only [Option.bind_some, decide_eq_true_eq]
      generalize hx : b4 + b5 * 256 + b6 * 65536 + b7 * 16777216 = x
      by_cases hR : RightP b0 (b1 / 16) (b1 % 16) b2 ((x + 2147483648) % 4294967296 - 2147483648)
      · rw [if_pos hR]
        refine .inl ⟨_, _, _, _, _, rfl, hR, ?_⟩
        unfold bytes8
        simp only [List.cons.injEq, and_true, true_and]
        omega
      · rw [if_neg hR]
        exact .inr rfl
  · rw [if_neg h8, if_pos hl]
    exact .inr rfl
theorem str_inj : ∀ (l m : List Int), (∀ x ∈ l, Byte x) → (∀ x ∈ m, Byte x) → strOfNums l = strOfNums m → l = m := by
  have key : ∀ (l m : List Int), (∀ x ∈ l, Byte x) → (∀ x ∈ m, Byte x) → l.map (fun n => UInt8.ofNat n.toNat) = m.map (fun n => UInt8.ofNat n.toNat) → l = m := by
    intro l
    induction l with
    | nil => intro m _ _ h; cases m with
      | nil => rfl
      | cons y m => simp at h
    | cons x l ih =>
      intro m hl hm h
      cases m with
      | nil => simp at h
      | cons y m =>
        simp only [List.map_cons, List.cons.injEq] at h
        have hx := hl x (by simp)
        have hy := hm y (by simp)
        unfold Byte at hx hy
        have h1 : (UInt8.ofNat x.toNat).toNat = (UInt8.ofNat y.toNat).toNat := by rw [h.1]
        rw [UInt8.toNat_ofNat', UInt8.toNat_ofNat'] at h1
        have : x = y := by omega
        subst this
        rw [ih m (fun z hz => hl z (by simp [hz])) (fun z hz => hm z (by simp [hz])) h.2]
  intro l m hl hm h
  unfold strOfNums at h
  have h := congrArg (fun b : ByteArray => b.data.toList) h
  exact key l m hl hm (by simpa using h)
end Go.Proofs.YtfdkhahpjbikiaaDoor.S
