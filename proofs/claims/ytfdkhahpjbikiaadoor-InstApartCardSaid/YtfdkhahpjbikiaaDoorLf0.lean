import Derived.Test.YtfdkhahpjbikiaaDoorLa
namespace Go.Proofs.YtfdkhahpjbikiaaDoor.S
open Go.RowKit Go.Proofs.YtfdkhahpjbikiaaDoorW.PrintWords Go.Proofs.YtfdkhahpjbikiaaDoorW.PrintLast Go.Proofs.YtfdkhahpjbikiaaDoorW.PrintMore
set_option linter.unusedVariables false
set_option linter.unusedSimpArgs false
def I64 (n : Int) : Prop := -9223372036854775808 ≤ n ∧ n ≤ 9223372036854775807
theorem right_ge {k : Nat} (hk : 2 ≤ k) (op a b c imm : Int) (h : I64 imm) : inst_Right.f k op a b c imm = some (decide (RightP op a b c imm)) := by
  obtain ⟨j, rfl⟩ := Nat.exists_eq_add_of_le' hk
  exact right_eq j op a b c imm h
theorem addS_ge (b : Bool) (p s : ByteArray) (n : Int) : s.size ≤ (addS b p s n).size := by
  unfold addS
  split
  · simp only [ByteArray.size_append]; omega
  · omega
theorem textS_ge (nm : ByteArray) (sa sb sc si : Bool) (a b c imm : Int) : nm.size ≤ (textS nm sa sb sc si a b c imm).size := by
  unfold textS
  refine Nat.le_trans ?_ (addS_ge _ _ _ _)
  refine Nat.le_trans ?_ (addS_ge _ _ _ _)
  refine Nat.le_trans ?_ (addS_ge _ _ _ _)
  refine Nat.le_trans ?_ (addS_ge _ _ _ _)
  split
  · simp only [ByteArray.size_append]; omega
  · exact Nat.le_refl _
theorem text_right {k : Nat} (hk : 2 ≤ k) {op a b c imm : Int} (ha : I64 a) (hb : I64 b) (hc : I64 c) (hi : I64 imm) (h : RightP op a b c imm) : ∃ t, inst_Text.f k op a b c imm = some t ∧ 1 < t.size ∧ t = textS (shapeTab.getD op.toNat (⟨#[]⟩, false, false, false, false, false, false)).1 (shapeTab.getD op.toNat (⟨#[]⟩, false, false, false, false, false, false)).2.1 (shapeTab.getD op.toNat (⟨#[]⟩, false, false, false, false, false, false)).2.2.1 (shapeTab.getD op.toNat (⟨#[]⟩, false, false, false, false, false, false)).2.2.2.1 (shapeTab.getD op.toNat (⟨#[]⟩, false, false, false, false, false, false)).2.2.2.2.1 a b c imm := by
  unfold inst_Text.f
  rw [right_ge hk op a b c imm hi]
  simp only [Option.bind_some, h, decide_true, if_true]
  unfold textR inst_shapeOf.f
  rw [if_pos ⟨h.1, h.2.1⟩]
  simp only [Option.bind_some]
  have hs : (shapeTab.getD op.toNat (⟨#[]⟩, false, false, false, false, false, false)).2.2.2.2.2.2 = true ∧ (shapeTab.getD op.toNat (⟨#[]⟩, false, false, false, false, false, false)).1.size ≤ 10 ∧ 2 ≤ (shapeTab.getD op.toNat (⟨#[]⟩, false, false, false, false, false, false)).1.size := by
    rcases op_cases h.1 h.2.1 with rfl | rfl | rfl | rfl | rfl | rfl | rfl | rfl | rfl | rfl | rfl | rfl | rfl | rfl | rfl <;> decide +kernel
  rw [if_pos ⟨hs.1, hs.2.1, ha, hb, hc, hi⟩]
  exact ⟨_, rfl, Nat.lt_of_lt_of_le hs.2.2 (textS_ge _ _ _ _ _ _ _ _ _), rfl⟩
theorem text_wrong {k : Nat} (hk : 2 ≤ k) {op a b c imm : Int} (hi : I64 imm) (h : ¬ RightP op a b c imm) : inst_Text.f k op a b c imm = some ⟨#[63]⟩ := by
  unfold inst_Text.f
  rw [right_ge hk op a b c imm hi]
  simp [h]
end Go.Proofs.YtfdkhahpjbikiaaDoor.S
