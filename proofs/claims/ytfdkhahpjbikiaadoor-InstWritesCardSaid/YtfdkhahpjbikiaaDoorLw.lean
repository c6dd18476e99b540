import Derived.Test.YtfdkhahpjbikiaaDoorOwr
namespace Go.Proofs.YtfdkhahpjbikiaaDoor.S
open Go.RowKit Go.Proofs.YtfdkhahpjbikiaaDoorW.PrintWords Go.Proofs.YtfdkhahpjbikiaaDoorW.PrintLast Go.Proofs.YtfdkhahpjbikiaaDoorW.PrintMore
set_option linter.unusedVariables false
set_option linter.unusedSimpArgs false
theorem ints_same (l : List Int) (k : Nat) (hk : l.length < k) (hl : l.length < 1000) : swageref02_Ints.f k l l = some true := by
  have key : ∀ (n k : Nat) (i : Nat), l.length - i < n → n ≤ k → swageref02_Ints.l0 k l l (i : Int) = some true := by
    intro n
    induction n with
    | zero => intro k i h; omega
    | succ n ih =>
      intro k i h hk
      obtain ⟨k, rfl⟩ : ∃ j, k = j + 1 := ⟨k - 1, by omega⟩
      simp only [swageref02_Ints.l0]
      by_cases hi : (i : Int) < (l.length : Int)
      · rw [if_pos hi, if_pos (by omega), if_pos hi, if_pos trivial]
        have e : wrap64 ((i : Int) + 1) = ((i + 1 : Nat) : Int) := by rw [w64 _ (by omega)]; omega
        rw [e]
        exact ih k (i + 1) (by omega) (by omega)
      · rw [if_neg hi]
  unfold swageref02_Ints.f
  rw [if_pos rfl]
  exact key (l.length + 1) k 0 (by omega) (by omega)
theorem uses_two {k : Nat} (hk : 4 ≤ k) (op a b c imm : Int) (hi : I64 imm) : ∃ l, inst_Uses.f k op a b c imm = some l ∧ l.length ≤ 2 := by
  obtain ⟨j, rfl⟩ := Nat.exists_eq_add_of_le' hk
  unfold inst_Uses.f
  rw [right_ge (by omega) op a b c imm hi]
  simp only [Option.bind_some]
  by_cases h : RightP op a b c imm
  · simp only [h, decide_true, if_true]
    have both : ∀ x y, ∃ l, inst_both.f x y = some l ∧ l.length ≤ 2 := fun x y => by
      unfold inst_both.f
      split
      · exact ⟨_, rfl, by simp⟩
      · exact ⟨_, rfl, by simp⟩
    obtain ⟨l1, e1, h1⟩ := both b c
    obtain ⟨l2, e2, h2⟩ := both a b
    rcases op_cases h.1 h.2.1 with rfl | rfl | rfl | rfl | rfl | rfl | rfl | rfl | rfl | rfl | rfl | rfl | rfl | rfl | rfl <;>
      simp [inst_Uses.j0, inst_Uses.j1, e1, e2, h1, h2]
  · simp [h]
theorem sets_any {k : Nat} (hk : 4 ≤ k) (op a b c imm : Int) (hi : I64 imm) : ∃ s is, inst_Sets.f k op a b c imm = some (s, is) := by
  unfold inst_Sets.f
  rw [right_ge (by omega) op a b c imm hi]
  simp only [Option.bind_some]
  (repeat' split) <;> exact ⟨_, _, rfl⟩
theorem jumps_any {k : Nat} (hk : 4 ≤ k) (op a b c imm : Int) (hi : I64 imm) : ∃ s is, inst_Jumps.f k op a b c imm = some (s, is) := by
  unfold inst_Jumps.f inst_shapeOf.f
  rw [right_ge (by omega) op a b c imm hi]
  simp only [Option.bind_some]
  split <;> simp only [Option.bind_some] <;> (repeat' split) <;> exact ⟨_, _, rfl⟩
theorem writes_law (op a b c imm : Int) (w : World) (hGL : GL w) (ha : I64 a) (hb : I64 b) (hc : I64 c) (hi : I64 imm) :
    Calls Tryd.prog 4 #[.agg #[.int .i64 op, .int .i64 a, .int .i64 b, .int .i64 c, .int .i64 imm]] w fun e w' => e = .returned (.bool true) ∧ Below w.heap.size w w' := by
  obtain ⟨s, is, e3⟩ := sets_any (k := 30) (by decide) op a b c imm hi
  obtain ⟨j, ju, e5⟩ := jumps_any (k := 30) (by decide) op a b c imm hi
  obtain ⟨us, e11, hus⟩ := uses_two (k := 30) (by decide) op a b c imm hi
  have e4 := (rsets_eq 25 op a b c imm hi).trans e3
  have e6 := (rjumps_eq 25 op a b c imm hi).trans e5
  have e12 := (ruses_eq 25 op a b c imm hi).trans e11
  have e7 := right_eq 28 op a b c imm hi
  have e8 := rright_eq 26 op a b c imm
  have e13 := ints_same us 30 (by omega) (by omega)
  have e1 := encode_eq 24 op a b c imm hi
  have e2 := rencode_eq 24 op a b c imm
  obtain ⟨tx, e9⟩ : ∃ tx, inst_Text.f 30 op a b c imm = some tx := by
    by_cases h : RightP op a b c imm
    · obtain ⟨t, e, _⟩ := text_right (k := 30) (by decide) ha hb hc hi h
      exact ⟨t, e⟩
    · exact ⟨_, text_wrong (by decide) hi h⟩
  have e10 := rtext_calls op a b c imm tx
  by_cases h : RightP op a b c imm
  · rw [if_pos h] at e1 e2
    exact writes_walk 30 op a b c imm _ _ s is j ju _ tx us w hGL e1 e2 e3 e4 e5 e6 e7 e8 e9 (fun w => e10 w ha hb hc hi e9) e11 e12 e13
  · rw [if_neg h] at e1 e2
    exact writes_walk 30 op a b c imm _ _ s is j ju _ tx us w hGL e1 e2 e3 e4 e5 e6 e7 e8 e9 (fun w => e10 w ha hb hc hi e9) e11 e12 e13
end Go.Proofs.YtfdkhahpjbikiaaDoor.S
