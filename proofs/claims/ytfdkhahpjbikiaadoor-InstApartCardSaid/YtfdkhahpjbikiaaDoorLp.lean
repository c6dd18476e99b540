import Derived.Test.YtfdkhahpjbikiaaDoorLr
import Derived.Test.YtfdkhahpjbikiaaDoorLf0
import Derived.Test.YtfdkhahpjbikiaaDoorOdec
import Derived.Lib.EndianBits
import Derived.Lib.ItoaMem
namespace Go.Proofs.YtfdkhahpjbikiaaDoor.S
open Go.RowKit Go.Proofs.YtfdkhahpjbikiaaDoorW.PrintWords Go.Proofs.YtfdkhahpjbikiaaDoorW.PrintLast Go.Proofs.YtfdkhahpjbikiaaDoorW.PrintMore
set_option linter.unusedVariables false
set_option linter.unusedSimpArgs false
/-! ### The bytes -/
def Byte (x : Int) : Prop := 0 ≤ x ∧ x ≤ 255
theorem or_sum (i : Nat) (y x : Int) (hy0 : 0 ≤ y) (hy : y < 2 ^ i) (hy1 : y < 2 ^ 63) (hx0 : 0 ≤ x) (hx : x % 2 ^ i = 0) (hx1 : x < 2 ^ 63) : bits .or .i64 y x = y + x :=
  bits_join_low .i64 63 (by decide) (fun n h0 h1 => by rw [IntKind.wrap_i64]; omega) i y x hy0 hy hy1 hx0 hx hx1
theorem decImm_eq {b4 b5 b6 b7 : Int} (h4 : Byte b4) (h5 : Byte b5) (h6 : Byte b6) (h7 : Byte b7) : decImm b4 b5 b6 b7 = b4 + b5 * 256 + b6 * 65536 + b7 * 16777216 := by
  unfold Byte at h4 h5 h6 h7
  unfold decImm
  rw [or_sum 0 0 b4 (by omega) (by omega) (by omega) (by omega) (by omega) (by omega), Int.zero_add,
    or_sum 8 b4 (b5 * 256) (by omega) (by omega) (by omega) (by omega) (by omega) (by omega),
    or_sum 16 (b4 + b5 * 256) (b6 * 65536) (by omega) (by omega) (by omega) (by omega) (by omega) (by omega),
    or_sum 24 (b4 + b5 * 256 + b6 * 65536) (b7 * 16777216) (by omega) (by omega) (by omega) (by omega) (by omega) (by omega)]
theorem bytes8_byte {op a b c imm : Int} (h : RightP op a b c imm) : ∀ x ∈ bytes8 op a b c imm, Byte x := by
  have ha := rreg_in h.2.2.1
  have hb := rreg_in h.2.2.2.1
  have hc := rreg_in h.2.2.2.2.1
  have ho := h.1
  have ho' := h.2.1
  unfold bytes8 Byte
  intro x hx
  simp only [List.mem_cons, List.not_mem_nil, or_false] at hx
  rcases hx with rfl | rfl | rfl | rfl | rfl | rfl | rfl | rfl <;> omega
theorem bytes8_inj {op a b c imm op' a' b' c' imm' : Int} (h : RightP op a b c imm) (h' : RightP op' a' b' c' imm') (he : bytes8 op a b c imm = bytes8 op' a' b' c' imm') : op = op' ∧ a = a' ∧ b = b' ∧ c = c' ∧ imm = imm' := by
  have ha := rreg_in h.2.2.1
  have hb := rreg_in h.2.2.2.1
  have ha' := rreg_in h'.2.2.1
  have hb' := rreg_in h'.2.2.2.1
  have hi := imm_in h
  have hi' := imm_in h'
  unfold bytes8 at he
  simp only [List.cons.injEq, and_true, true_and] at he
  omega
/-- What eight bytes are read as: wrong, and nothing; or a right instruction, whose bytes they are. -/
theorem decode_law (k : Nat) (l : List Int) (hl : l.length ≤ 9223372036854775807) (hb : ∀ x ∈ l, Byte x) :
    (∃ a b c d i, inst_Decode.f (k + 2) l = some (a, b, c, d, i, 0) ∧ RightP a b c d i ∧ bytes8 a b c d i = l) ∨ inst_Decode.f (k + 2) l = some (0, 0, 0, 0, 0, 2) := by
  unfold inst_Decode.f
  by_cases h8 : l.length = 8 ∧ rd l 3 = 0
  · rw [if_pos h8, if_pos (show ∀ x ∈ l, 0 ≤ x ∧ x ≤ 255 from hb)]
    match l, h8, hb with
    | [b0, b1, b2, b3, b4, b5, b6, b7], h8, hb =>
      obtain ⟨_, h3⟩ := h8
      have h3 : b3 = 0 := h3
      subst h3
      have g0 := hb b0 (by simp)
      have g1 := hb b1 (by simp)
      have g2 := hb b2 (by simp)
      have g4 := hb b4 (by simp)
      have g5 := hb b5 (by simp)
      have g6 := hb b6 (by simp)
      have g7 := hb b7 (by simp)
      have e : decImm (rd [b0, b1, b2, 0, b4, b5, b6, b7] 4) (rd [b0, b1, b2, 0, b4, b5, b6, b7] 5) (rd [b0, b1, b2, 0, b4, b5, b6, b7] 6) (rd [b0, b1, b2, 0, b4, b5, b6, b7] 7) = b4 + b5 * 256 + b6 * 65536 + b7 * 16777216 := decImm_eq g4 g5 g6 g7
      have r0 : rd [b0, b1, b2, 0, b4, b5, b6, b7] 0 = b0 := rfl
      have r1 : rd [b0, b1, b2, 0, b4, b5, b6, b7] 1 = b1 := rfl
      have r2 : rd [b0, b1, b2, 0, b4, b5, b6, b7] 2 = b2 := rfl
      unfold Byte at g0 g1 g2 g4 g5 g6 g7
      rw [e, r0, r1, r2, wrap32_eq (k + 1) _ (by omega)]
      simp only [Option.bind_some]
      rw [right_eq k _ _ _ _ _ (by omega)]
      simp only [Option.bind_some, decide_eq_true_eq]
      generalize hx : b4 + b5 * 256 + b6 * 65536 + b7 * 16777216 = x
      by_cases hR : RightP b0 (b1 / 16) (b1 % 16) b2 ((x + 2147483648) % 4294967296 - 2147483648)
      · rw [if_pos hR]
        refine .inl ⟨_, _, _, _, _, rfl, hR, ?_⟩
        unfold bytes8
        simp only [List.cons.injEq, and_true, true_and]
        omega
      · rw [if_neg hR]
        exact .inr rfl
  · rw [if_neg h8, if_pos hl]
    exact .inr rfl
theorem str_inj : ∀ (l m : List Int), (∀ x ∈ l, Byte x) → (∀ x ∈ m, Byte x) → strOfNums l = strOfNums m → l = m := by
  have key : ∀ (l m : List Int), (∀ x ∈ l, Byte x) → (∀ x ∈ m, Byte x) → l.map (fun n => UInt8.ofNat n.toNat) = m.map (fun n => UInt8.ofNat n.toNat) → l = m := by
    intro l
    induction l with
    | nil => intro m _ _ h; cases m with
      | nil => rfl
      | cons y m => simp at h
    | cons x l ih =>
      intro m hl hm h
      cases m with
      | nil => simp at h
      | cons y m =>
        simp only [List.map_cons, List.cons.injEq] at h
        have hx := hl x (by simp)
        have hy := hm y (by simp)
        unfold Byte at hx hy
        have h1 : (UInt8.ofNat x.toNat).toNat = (UInt8.ofNat y.toNat).toNat := by rw [h.1]
        rw [UInt8.toNat_ofNat', UInt8.toNat_ofNat'] at h1
        have : x = y := by omega
        subst this
        rw [ih m (fun z hz => hl z (by simp [hz])) (fun z hz => hm z (by simp [hz])) h.2]
  intro l m hl hm h
  unfold strOfNums at h
  have h := congrArg (fun b : ByteArray => b.data.toList) h
  exact key l m hl hm (by simpa using h)
end Go.Proofs.YtfdkhahpjbikiaaDoor.S
