import Derived.Test.YtfdkhahpjbikiaaDoorOtext3
namespace Go.Proofs.YtfdkhahpjbikiaaDoor.S
open Go.RowKit Go.Proofs.YtfdkhahpjbikiaaDoorW.PrintWords Go.Proofs.YtfdkhahpjbikiaaDoorW.PrintLast Go.Proofs.YtfdkhahpjbikiaaDoorW.PrintMore Go.RelRegion
set_option linter.unusedVariables false
set_option maxHeartbeats 8000000 in
theorem text_not (k : Nat) (a0 a1 a2 a3 a4 : Int) (w : World) (hR : inst_Right.f k a0 a1 a2 a3 a4 = some false) :
    Calls Tryd.prog 12 #[.agg #[.int .i64 a0, .int .i64 a1, .int .i64 a2, .int .i64 a3, .int .i64 a4]] w fun e w' => e = .returned (.string ⟨#[63]⟩) ∧ Below w.heap.size w w' := by
  have HR := Aside0.mk hR
  clear hR
  go_enter Tryd.func12, Tryd.ntmps12
  go_wp2_with fail
  refine (inst_Right.calls k a0 a1 a2 a3 a4 false _ HR.out).mono ?_
  rintro e w1 ⟨rfl, hb1⟩
  have hB1 := below_then (below_alloc (Below.refl w.heap.size w) _) (below_size (below_alloc (Below.refl _ _) _)) hb1
  clear hb1
  have HB1 := Aside0.mk hB1
  clear hB1
  go_wp2_with fail
  go_ret
  exact ⟨rfl, HB1.out⟩

/-- The text of a right instruction, out of what its operation names. -/
def textR (a0 a1 a2 a3 a4 : Int) : Option ByteArray :=
  (inst_shapeOf.f a0).bind fun t => if t.2.2.2.2.2.2 = true ∧ t.1.size ≤ 10 ∧ (-9223372036854775808 ≤ a1 ∧ a1 ≤ 9223372036854775807) ∧ (-9223372036854775808 ≤ a2 ∧ a2 ≤ 9223372036854775807) ∧ (-9223372036854775808 ≤ a3 ∧ a3 ≤ 9223372036854775807) ∧ (-9223372036854775808 ≤ a4 ∧ a4 ≤ 9223372036854775807)
    then some (textS t.1 t.2.1 t.2.2.1 t.2.2.2.1 t.2.2.2.2.1 a1 a2 a3 a4) else none
def inst_Text.f (k : Nat) (a0 a1 a2 a3 a4 : Int) : Option ByteArray :=
  (inst_Right.f k a0 a1 a2 a3 a4).bind fun t => if t = true then textR a0 a1 a2 a3 a4 else some ⟨#[63]⟩
theorem inst_Text.mono : ∀ a0 a1 a2 a3 a4 k, LeO (inst_Text.f k a0 a1 a2 a3 a4) (inst_Text.f (k + 1) a0 a1 a2 a3 a4) := by
  intro a0 a1 a2 a3 a4 k
  unfold inst_Text.f
  exact LeO.bind (inst_Right.mono _ _ _ _ _ _) (fun _ => LeO.refl _)
theorem inst_Text.calls (k : Nat) (a0_0 : Int) (a0_1 : Int) (a0_2 : Int) (a0_3 : Int) (a0_4 : Int) (r : ByteArray) (w : World) (hGL : Aside0 (GL w)) (h : inst_Text.f k a0_0 a0_1 a0_2 a0_3 a0_4 = some r) :
    Calls Tryd.prog 12 #[.agg #[.int .i64 a0_0, .int .i64 a0_1, .int .i64 a0_2, .int .i64 a0_3, .int .i64 a0_4]] w fun e w' => e = .returned (.string r) ∧ Below w.heap.size w w' := by
  unfold inst_Text.f at h
  cases hR : inst_Right.f k a0_0 a0_1 a0_2 a0_3 a0_4 with
  | none => rw [hR] at h; cases h
  | some t =>
    rw [hR] at h
    simp only [Option.bind_some] at h
    cases t with
    | false =>
      rw [if_neg (by simp)] at h
      injection h with h
      subst h
      exact text_not k _ _ _ _ _ w hR
    | true =>
      rw [if_pos rfl] at h
      unfold textR at h
      cases hS : inst_shapeOf.f a0_0 with
      | none => rw [hS] at h; cases h
      | some x =>
        obtain ⟨nm, sa, sb, sc, si, st, is⟩ := x
        rw [hS] at h
        simp only [Option.bind_some] at h
        split at h
        · rename_i hc
          obtain ⟨h1, h2, ⟨h3, h4⟩, ⟨h5, h6⟩, ⟨h7, h8⟩, h9, h10⟩ := hc
          injection h with h
          subst h
          cases is with
          | false => cases h1
          | true =>
            cases sc with
            | true => exact text_sc1 k _ _ _ _ _ nm sa sb si st w hGL.out hR hS h2 h3 h4 h5 h6 h7 h8 h9 h10
            | false => exact text_sc0 k _ _ _ _ _ nm sa sb si st w hGL.out hR hS h2 h3 h4 h5 h6 h7 h8 h9 h10
        · cases h
end Go.Proofs.YtfdkhahpjbikiaaDoor.S
