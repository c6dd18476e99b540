import Derived.Test.YtfdkhahpjbikiaaDoorS7
import Derived.Test.YtfdkhahpjbikiaaDoorOtext
namespace Go.Proofs.YtfdkhahpjbikiaaDoor.S
open Go.RowKit Go.Proofs.YtfdkhahpjbikiaaDoorW.PrintWords Go.Proofs.YtfdkhahpjbikiaaDoorW.PrintLast Go.Proofs.YtfdkhahpjbikiaaDoorW.PrintMore
set_option linter.unusedVariables false
set_option linter.unusedSimpArgs false
/-- A field that is named, or not. -/
def regOk (n : Int) (named : Bool) : Prop := n = 0 ∨ (named = true ∧ 0 ≤ n ∧ n < 16)
instance (n : Int) (b : Bool) : Decidable (regOk n b) := by unfold regOk; infer_instance
/-- A right instruction, operation by operation. -/
def RightP (op a b c imm : Int) : Prop :=
  0 ≤ op ∧ op < 15 ∧
  (let s := shapeTab.getD op.toNat (⟨#[]⟩, false, false, false, false, false, false)
   regOk a s.2.1 ∧ regOk b s.2.2.1 ∧ regOk c s.2.2.2.1 ∧
   (if op = 4 then 1 ≤ imm ∧ imm ≤ 14 else if s.2.2.2.2.2.1 = true then 0 ≤ imm ∧ imm ≤ 2147483647 else if s.2.2.2.2.1 = true then -2147483648 ≤ imm ∧ imm ≤ 2147483647 else imm = 0))
instance (op a b c imm : Int) : Decidable (RightP op a b c imm) := by unfold RightP; infer_instance
theorem reg_eq (n : Int) (b : Bool) : inst_reg.f n b = some (decide (regOk n b)) := by
  unfold inst_reg.f regOk
  by_cases h : n = 0
  · simp [h]
  · cases b <;> simp [h]
    split <;> simp_all
    omega
theorem wrap32_eq (k : Nat) (x : Int) (h : -9223372036854775808 ≤ x ∧ x ≤ 9223372036854775807) : word_Wrap.f (k + 1) x 32 true = some ((x + 2147483648) % 4294967296 - 2147483648) := by
  unfold word_Wrap.f
  rw [if_neg (by decide), if_neg (by decide)]
  simp only [word_Wrap.j0]
  rw [if_neg (by decide), if_pos trivial]
  have e : wrap64 (64 - 32) = 32 := by decide +kernel
  rw [e, if_pos (by decide)]
  congr 1
  unfold shr shl
  have e2 : min (32 : Int).toNat (IntKind.bits .i64) = 32 := by decide
  rw [e2]
  have e3 : IntKind.wrap .i64 (x * 2 ^ 32) = wrap64 (x * 4294967296) := by
    rw [IntKind.wrap_i64, show (2 ^ 32 : Int) = 4294967296 by decide +kernel, wrap64]
  rw [e3]
  unfold wrap64
  omega
theorem fits_eq (k : Nat) (x : Int) (h : -9223372036854775808 ≤ x ∧ x ≤ 9223372036854775807) : word_Fits.f (k + 1) x 32 true = some (decide (-2147483648 ≤ x ∧ x ≤ 2147483647)) := by
  unfold word_Fits.f
  rw [wrap32_eq k x h]
  simp only [Option.bind_some]
  congr 1
  rw [Bool.eq_iff_iff]
  simp
  omega
theorem op_cases {op : Int} (h0 : 0 ≤ op) (h1 : op < 15) : op = 0 ∨ op = 1 ∨ op = 2 ∨ op = 3 ∨ op = 4 ∨ op = 5 ∨ op = 6 ∨ op = 7 ∨ op = 8 ∨ op = 9 ∨ op = 10 ∨ op = 11 ∨ op = 12 ∨ op = 13 ∨ op = 14 := by omega
set_option maxHeartbeats 2000000 in
theorem right_eq (k : Nat) (op a b c imm : Int) (h : -9223372036854775808 ≤ imm ∧ imm ≤ 9223372036854775807) : inst_Right.f (k + 2) op a b c imm = some (decide (RightP op a b c imm)) := by
  unfold inst_Right.f inst_shapeOf.f
  by_cases ho : 0 ≤ op ∧ op < 15
  · rw [if_pos ho]
    simp only [Option.bind_some, reg_eq]
    unfold RightP
    rcases op_cases ho.1 ho.2 with rfl | rfl | rfl | rfl | rfl | rfl | rfl | rfl | rfl | rfl | rfl | rfl | rfl | rfl | rfl <;>
      simp [shapeTab, inst_Right.j0, word_Known.f, fits_eq _ _ h, regOk] <;> (repeat' split) <;> (congr 1; rw [Bool.eq_iff_iff]; simp; omega)
  · rw [if_neg ho]
    simp [inst_Right.j0, RightP]
    omega
end Go.Proofs.YtfdkhahpjbikiaaDoor.S
