import Derived.Test.YtfdkhahpjbikiaaDoorLa
import Derived.Test.YtfdkhahpjbikiaaDoorS8
namespace Go.Proofs.YtfdkhahpjbikiaaDoor.S
open Go.RowKit Go.Proofs.YtfdkhahpjbikiaaDoorW.PrintWords Go.Proofs.YtfdkhahpjbikiaaDoorW.PrintLast Go.Proofs.YtfdkhahpjbikiaaDoorW.PrintMore
set_option linter.unusedVariables false
set_option linter.unusedSimpArgs false
def I64 (n : Int) : Prop := -9223372036854775808 ≤ n ∧ n ≤ 9223372036854775807
theorem right_ge {k : Nat} (hk : 2 ≤ k) (op a b c imm : Int) (h : I64 imm) : inst_Right.f k op a b c imm = some (decide (RightP op a b c imm)) := by
  obtain ⟨j, rfl⟩ := Nat.exists_eq_add_of_le' hk
  exact right_eq j op a b c imm h
theorem addS_ge (b : Bool) (p s : ByteArray) (n : Int) : s.size ≤ (addS b p s n).size := by
  unfold addS
  split
  · simp only [ByteArray.size_append]; omega
  · omega
theorem textS_ge (nm : ByteArray) (sa sb sc si : Bool) (a b c imm : Int) : nm.size ≤ (textS nm sa sb sc si a b c imm).size := by
  unfold textS
  refine Nat.le_trans ?_ (addS_ge _ _ _ _)
  refine Nat.le_trans ?_ (addS_ge _ _ _ _)
  refine Nat.le_trans ?_ (addS_ge _ _ _ _)
  refine Nat.le_trans ?_ (addS_ge _ _ _ _)
  split
  · simp only [ByteArray.size_append]; omega
  · exact Nat.le_refl _
theorem text_right {k : Nat} (hk : 2 ≤ k) {op a b c imm : Int} (ha : I64 a) (hb : I64 b) (hc : I64 c) (hi : I64 imm) (h : RightP op a b c imm) : ∃ t, inst_Text.f k op a b c imm = some t ∧ 1 < t.size ∧ t = textS (shapeTab.getD op.toNat (⟨#[]⟩, false, false, false, false, false, false)).1 (shapeTab.getD op.toNat (⟨#[]⟩, false, false, false, false, false, false)).2.1 (shapeTab.getD op.toNat (⟨#[]⟩, false, false, false, false, false, false)).2.2.1 (shapeTab.getD op.toNat (⟨#[]⟩, false, false, false, false, false, false)).2.2.2.1 (shapeTab.getD op.toNat (⟨#[]⟩, false, false, false, false, false, false)).2.2.2.2.1 a b c imm := by
  unfold inst_Text.f
  rw [right_ge hk op a b c imm hi]
  simp only [Option.bind_some, h, decide_true, if_true]
  unfold textR inst_shapeOf.f
  rw [if_pos ⟨h.1, h.2.1⟩]
  simp only [Option.bind_some]
  have hs : (shapeTab.getD op.toNat (⟨#[]⟩, false, false, false, false, false, false)).2.2.2.2.2.2 = true ∧ (shapeTab.getD op.toNat (⟨#[]⟩, false, false, false, false, false, false)).1.size ≤ 10 ∧ 2 ≤ (shapeTab.getD op.toNat (⟨#[]⟩, false, false, false, false, false, false)).1.size := by
    rcases op_cases h.1 h.2.1 with rfl | rfl | rfl | rfl | rfl | rfl | rfl | rfl | rfl | rfl | rfl | rfl | rfl | rfl | rfl <;> decide +kernel
  rw [if_pos ⟨hs.1, hs.2.1, ha, hb, hc, hi⟩]
  exact ⟨_, rfl, Nat.lt_of_lt_of_le hs.2.2 (textS_ge _ _ _ _ _ _ _ _ _), rfl⟩
theorem text_wrong {k : Nat} (hk : 2 ≤ k) {op a b c imm : Int} (hi : I64 imm) (h : ¬ RightP op a b c imm) : inst_Text.f k op a b c imm = some ⟨#[63]⟩ := by
  unfold inst_Text.f
  rw [right_ge hk op a b c imm hi]
  simp [h]
theorem w1 : wrap64 (0 + 1) = 1 := by decide +kernel
theorem w1' : wrap64 1 = 1 := by decide +kernel
theorem w0 : wrap64 0 = 0 := by decide +kernel
theorem w2' : wrap64 2 = 2 := by decide +kernel
theorem w2 : wrap64 (1 + 1) = 2 := by decide +kernel
theorem w3 : wrap64 (1 - 1) = 0 := by decide +kernel
theorem fields_loop {k : Nat} (l : List Int) (s : Int) (is : Bool) (j : Int) (jumps : Bool) (op a b c imm : Int)
    (hl : l = [] ∨ (∃ u, l = [u] ∧ 0 ≤ u ∧ u < 16) ∨ (∃ u v, l = [u, v] ∧ 0 ≤ u ∧ u < v ∧ v < 16)) (hs : 0 ≤ s ∧ s < 16) (hj : 0 ≤ j) (his : is = false → s = 0) (hju : jumps = false → j = 0)
    (ht : ∀ m, 2 ≤ m → ∃ t, inst_Text.f m op a b c imm = some t ∧ 1 < t.size) :
    swagelaw02_InstFields.l0 (k + 5) true l s is j jumps 0 op a b c imm = some true := by
  have fin : ∀ (m : Nat) (i : Int), 2 ≤ m → (l.length : Int) ≤ i → swagelaw02_InstFields.l0 (m + 1) true l s is j jumps i op a b c imm = some true := by
    intro m i hm hi
    obtain ⟨t, e, hz⟩ := ht m hm
    have hz' : (1 : Int) < (t.size : Int) := by omega
    have hll : (l.length : Int) ≤ 2 := by rcases hl with rfl | ⟨u, rfl, _⟩ | ⟨u, v, rfl, _⟩ <;> simp
    simp only [swagelaw02_InstFields.l0]
    rw [if_neg (by omega)]
    simp only [e, Option.bind_some, if_true, if_pos hll, if_pos hs.1, if_pos hs.2, if_pos hj, ge_iff_le]
    cases is <;> cases jumps <;> simp_all
  rcases hl with rfl | ⟨u, rfl, h0, h1⟩ | ⟨u, v, rfl, h0, h1, h2⟩
  · exact fin (k + 4) 0 (by omega) (by simp)
  · have e := fin (k + 3) 1 (by omega) (by simp)
    unfold swagelaw02_InstFields.l0
    simp [rd, w1', show ¬ u < 0 by omega, show ¬ 16 ≤ u by omega]
    exact e
  · have e := fin (k + 2) 2 (by omega) (by simp)
    unfold swagelaw02_InstFields.l0
    simp [rd, w1', show ¬ u < 0 by omega, show ¬ 16 ≤ u by omega]
    unfold swagelaw02_InstFields.l0
    simp [rd, w0, w1', w2, w2', w3, show ¬ v < 0 by omega, show ¬ 16 ≤ v by omega, show ¬ v ≤ u by omega]
    exact e
theorem both_ok (b c : Int) (hb : 0 ≤ b ∧ b < 16) (hc : 0 ≤ c ∧ c < 16) : ∃ l, inst_both.f b c = some l ∧ (l = [] ∨ (∃ u, l = [u] ∧ 0 ≤ u ∧ u < 16) ∨ (∃ u v, l = [u, v] ∧ 0 ≤ u ∧ u < v ∧ v < 16)) := by
  unfold inst_both.f
  by_cases h : b = c
  · exact ⟨[b], by rw [if_pos h], Or.inr (Or.inl ⟨b, rfl, hb⟩)⟩
  · refine ⟨[mn b c, mx b c], by rw [if_neg h], Or.inr (Or.inr ⟨_, _, rfl, ?_⟩)⟩
    unfold mn mx
    split <;> split <;> omega
theorem reg_in {n : Int} {b : Bool} (h : regOk n b) : 0 ≤ n ∧ n < 16 := by
  rcases h with rfl | ⟨_, h⟩
  · omega
  · exact h
theorem uses_ok {k : Nat} (hk : 4 ≤ k) {op a b c imm : Int} (hi : I64 imm) (h : RightP op a b c imm) : ∃ l, inst_Uses.f k op a b c imm = some l ∧ (l = [] ∨ (∃ u, l = [u] ∧ 0 ≤ u ∧ u < 16) ∨ (∃ u v, l = [u, v] ∧ 0 ≤ u ∧ u < v ∧ v < 16)) := by
  have ha := reg_in h.2.2.1
  have hb := reg_in h.2.2.2.1
  have hc := reg_in h.2.2.2.2.1
  unfold inst_Uses.f
  rw [right_ge (by omega) op a b c imm hi]
  simp only [Option.bind_some, h, decide_true, if_true]
  obtain ⟨j, rfl⟩ := Nat.exists_eq_add_of_le' hk
  obtain ⟨l1, e1, h1⟩ := both_ok b c hb hc
  obtain ⟨l2, e2, h2⟩ := both_ok a b ha hb
  rcases op_cases h.1 h.2.1 with rfl | rfl | rfl | rfl | rfl | rfl | rfl | rfl | rfl | rfl | rfl | rfl | rfl | rfl | rfl <;>
    simp [inst_Uses.j0, inst_Uses.j1, e1, e2, ha, hb, h1, h2]
theorem sets_ok {k : Nat} (hk : 4 ≤ k) {op a b c imm : Int} (hi : I64 imm) (h : RightP op a b c imm) : ∃ s is, inst_Sets.f k op a b c imm = some (s, is) ∧ (0 ≤ s ∧ s < 16) ∧ (is = false → s = 0) := by
  have ha := reg_in h.2.2.1
  unfold inst_Sets.f
  rw [right_ge (by omega) op a b c imm hi]
  simp only [Option.bind_some, h, decide_true, if_true]
  rcases op_cases h.1 h.2.1 with rfl | rfl | rfl | rfl | rfl | rfl | rfl | rfl | rfl | rfl | rfl | rfl | rfl | rfl | rfl <;>
    simp [ha]
theorem jumps_ok {k : Nat} (hk : 4 ≤ k) {op a b c imm : Int} (hi : I64 imm) (h : RightP op a b c imm) : ∃ s is, inst_Jumps.f k op a b c imm = some (s, is) ∧ 0 ≤ s ∧ (is = false → s = 0) := by
  have h5 := h.2.2.2.2.2
  unfold inst_Jumps.f inst_shapeOf.f
  rw [right_ge (by omega) op a b c imm hi, if_pos ⟨h.1, h.2.1⟩]
  simp only [Option.bind_some, h, decide_true, if_true]
  rcases op_cases h.1 h.2.1 with rfl | rfl | rfl | rfl | rfl | rfl | rfl | rfl | rfl | rfl | rfl | rfl | rfl | rfl | rfl <;>
    simp [shapeTab] at h5 ⊢ <;> omega
theorem fields_law {op a b c imm : Int} (ha : I64 a) (hb : I64 b) (hc : I64 c) (hi : I64 imm) : swagelaw02_InstFields.f 9 op a b c imm = some true := by
  unfold swagelaw02_InstFields.f
  rw [right_ge (by omega) op a b c imm hi]
  by_cases h : RightP op a b c imm
  · obtain ⟨l, e1, hl⟩ := uses_ok (k := 9) (by omega) hi h
    obtain ⟨s, is, e2, hs, his⟩ := sets_ok (k := 9) (by omega) hi h
    obtain ⟨j, ju, e3, hj, hju⟩ := jumps_ok (k := 9) (by omega) hi h
    rw [e1, e2, e3]
    simp only [swagelaw02_small.f, Option.bind_some, h, decide_true, if_true]
    exact fields_loop l s is j ju op a b c imm hl hs hj his hju fun m hm => by
      obtain ⟨t, e, hz, _⟩ := text_right hm ha hb hc hi h
      exact ⟨t, e, hz⟩
  · have e1 : inst_Uses.f 9 op a b c imm = some [] := by
      unfold inst_Uses.f
      rw [right_ge (by omega) op a b c imm hi]
      simp [h]
    have e2 : inst_Sets.f 9 op a b c imm = some (0, false) := by
      unfold inst_Sets.f
      rw [right_ge (by omega) op a b c imm hi]
      simp [h]
    have e3 : inst_Jumps.f 9 op a b c imm = some (0, false) := by
      unfold inst_Jumps.f inst_shapeOf.f
      rw [right_ge (by omega) op a b c imm hi]
      simp only [Option.bind_some, h, decide_false]
      split <;> simp
    rw [e1, e2, e3, text_wrong (by omega) hi h]
    simp only [swagelaw02_small.f, Option.bind_some, h, decide_false]
    simp
end Go.Proofs.YtfdkhahpjbikiaaDoor.S
