import Derived.Test.YtmfcmjcgajjiiaaDoorS0
namespace Go.Proofs.YtmfcmjcgajjiiaaDoor.S
open Go.RowKit Go.Proofs.YtmfcmjcgajjiiaaDoorW.PrintWords Go.Proofs.YtmfcmjcgajjiiaaDoorW.PrintLast Go.Proofs.YtmfcmjcgajjiiaaDoorW.PrintMore
set_option linter.unusedVariables false
/-- The names of the operations, by their numbers. -/
def nameTab : List ByteArray := [⟨#[104, 97, 108, 116]⟩, ⟨#[108, 105]⟩, ⟨#[108, 105, 104]⟩, ⟨#[109, 111, 118]⟩, ⟨#[98, 105, 110]⟩, ⟨#[108, 100]⟩, ⟨#[115, 116]⟩, ⟨#[106, 109, 112]⟩, ⟨#[106, 122]⟩, ⟨#[99, 97, 108, 108]⟩, ⟨#[114, 101, 116]⟩, ⟨#[105, 110]⟩, ⟨#[111, 117, 116]⟩, ⟨#[97, 108, 108, 111, 99]⟩, ⟨#[97, 100, 100, 105]⟩]
def inst_nameOf.f (a0 : Int) : Option ByteArray := if 0 ≤ a0 ∧ a0 < 15 then some (nameTab.getD a0.toNat ⟨#[]⟩) else none
theorem nameIdx0 (w : World) : (Instr.index 98 (.agg #[.string ⟨#[104, 97, 108, 116]⟩, .string ⟨#[108, 105]⟩, .string ⟨#[108, 105, 104]⟩, .string ⟨#[109, 111, 118]⟩, .string ⟨#[98, 105, 110]⟩, .string ⟨#[108, 100]⟩, .string ⟨#[115, 116]⟩, .string ⟨#[106, 109, 112]⟩, .string ⟨#[106, 122]⟩, .string ⟨#[99, 97, 108, 108]⟩, .string ⟨#[114, 101, 116]⟩, .string ⟨#[105, 110]⟩, .string ⟨#[111, 117, 116]⟩, .string ⟨#[97, 108, 108, 111, 99]⟩, .string ⟨#[97, 100, 100, 105]⟩]) (.int .i64 0)).run Tryd.prog w = .ok (.string ⟨#[104, 97, 108, 116]⟩) w := by kernel_rfl
theorem nameIdx1 (w : World) : (Instr.index 98 (.agg #[.string ⟨#[104, 97, 108, 116]⟩, .string ⟨#[108, 105]⟩, .string ⟨#[108, 105, 104]⟩, .string ⟨#[109, 111, 118]⟩, .string ⟨#[98, 105, 110]⟩, .string ⟨#[108, 100]⟩, .string ⟨#[115, 116]⟩, .string ⟨#[106, 109, 112]⟩, .string ⟨#[106, 122]⟩, .string ⟨#[99, 97, 108, 108]⟩, .string ⟨#[114, 101, 116]⟩, .string ⟨#[105, 110]⟩, .string ⟨#[111, 117, 116]⟩, .string ⟨#[97, 108, 108, 111, 99]⟩, .string ⟨#[97, 100, 100, 105]⟩]) (.int .i64 1)).run Tryd.prog w = .ok (.string ⟨#[108, 105]⟩) w := by kernel_rfl
theorem nameIdx2 (w : World) : (Instr.index 98 (.agg #[.string ⟨#[104, 97, 108, 116]⟩, .string ⟨#[108, 105]⟩, .string ⟨#[108, 105, 104]⟩, .string ⟨#[109, 111, 118]⟩, .string ⟨#[98, 105, 110]⟩, .string ⟨#[108, 100]⟩, .string ⟨#[115, 116]⟩, .string ⟨#[106, 109, 112]⟩, .string ⟨#[106, 122]⟩, .string ⟨#[99, 97, 108, 108]⟩, .string ⟨#[114, 101, 116]⟩, .string ⟨#[105, 110]⟩, .string ⟨#[111, 117, 116]⟩, .string ⟨#[97, 108, 108, 111, 99]⟩, .string ⟨#[97, 100, 100, 105]⟩]) (.int .i64 2)).run Tryd.prog w = .ok (.string ⟨#[108, 105, 104]⟩) w := by kernel_rfl
theorem nameIdx3 (w : World) : (Instr.index 98 (.agg #[.string ⟨#[104, 97, 108, 116]⟩, .string ⟨#[108, 105]⟩, .string ⟨#[108, 105, 104]⟩, .string ⟨#[109, 111, 118]⟩, .string ⟨#[98, 105, 110]⟩, .string ⟨#[108, 100]⟩, .string ⟨#[115, 116]⟩, .string ⟨#[106, 109, 112]⟩, .string ⟨#[106, 122]⟩, .string ⟨#[99, 97, 108, 108]⟩, .string ⟨#[114, 101, 116]⟩, .string ⟨#[105, 110]⟩, .string ⟨#[111, 117, 116]⟩, .string ⟨#[97, 108, 108, 111, 99]⟩, .string ⟨#[97, 100, 100, 105]⟩]) (.int .i64 3)).run Tryd.prog w = .ok (.string ⟨#[109, 111, 118]⟩) w := by kernel_rfl
theorem nameIdx4 (w : World) : (Instr.index 98 (.agg #[.string ⟨#[104, 97, 108, 116]⟩, .string ⟨#[108, 105]⟩, .string ⟨#[108, 105, 104]⟩, .string ⟨#[109, 111, 118]⟩, .string ⟨#[98, 105, 110]⟩, .string ⟨#[108, 100]⟩, .string ⟨#[115, 116]⟩, .string ⟨#[106, 109, 112]⟩, .string ⟨#[106, 122]⟩, .string ⟨#[99, 97, 108, 108]⟩, .string ⟨#[114, 101, 116]⟩, .string ⟨#[105, 110]⟩, .string ⟨#[111, 117, 116]⟩, .string ⟨#[97, 108, 108, 111, 99]⟩, .string ⟨#[97, 100, 100, 105]⟩]) (.int .i64 4)).run Tryd.prog w = .ok (.string ⟨#[98, 105, 110]⟩) w := by kernel_rfl
theorem nameIdx5 (w : World) : (Instr.index 98 (.agg #[.string ⟨#[104, 97, 108, 116]⟩, .string ⟨#[108, 105]⟩, .string ⟨#[108, 105, 104]⟩, .string ⟨#[109, 111, 118]⟩, .string ⟨#[98, 105, 110]⟩, .string ⟨#[108, 100]⟩, .string ⟨#[115, 116]⟩, .string ⟨#[106, 109, 112]⟩, .string ⟨#[106, 122]⟩, .string ⟨#[99, 97, 108, 108]⟩, .string ⟨#[114, 101, 116]⟩, .string ⟨#[105, 110]⟩, .string ⟨#[111, 117, 116]⟩, .string ⟨#[97, 108, 108, 111, 99]⟩, .string ⟨#[97, 100, 100, 105]⟩]) (.int .i64 5)).run Tryd.prog w = .ok (.string ⟨#[108, 100]⟩) w := by kernel_rfl
theorem nameIdx6 (w : World) : (Instr.index 98 (.agg #[.string ⟨#[104, 97, 108, 116]⟩, .string ⟨#[108, 105]⟩, .string ⟨#[108, 105, 104]⟩, .string ⟨#[109, 111, 118]⟩, .string ⟨#[98, 105, 110]⟩, .string ⟨#[108, 100]⟩, .string ⟨#[115, 116]⟩, .string ⟨#[106, 109, 112]⟩, .string ⟨#[106, 122]⟩, .string ⟨#[99, 97, 108, 108]⟩, .string ⟨#[114, 101, 116]⟩, .string ⟨#[105, 110]⟩, .string ⟨#[111, 117, 116]⟩, .string ⟨#[97, 108, 108, 111, 99]⟩, .string ⟨#[97, 100, 100, 105]⟩]) (.int .i64 6)).run Tryd.prog w = .ok (.string ⟨#[115, 116]⟩) w := by kernel_rfl
theorem nameIdx7 (w : World) : (Instr.index 98 (.agg #[.string ⟨#[104, 97, 108, 116]⟩, .string ⟨#[108, 105]⟩, .string ⟨#[108, 105, 104]⟩, .string ⟨#[109, 111, 118]⟩, .string ⟨#[98, 105, 110]⟩, .string ⟨#[108, 100]⟩, .string ⟨#[115, 116]⟩, .string ⟨#[106, 109, 112]⟩, .string ⟨#[106, 122]⟩, .string ⟨#[99, 97, 108, 108]⟩, .string ⟨#[114, 101, 116]⟩, .string ⟨#[105, 110]⟩, .string ⟨#[111, 117, 116]⟩, .string ⟨#[97, 108, 108, 111, 99]⟩, .string ⟨#[97, 100, 100, 105]⟩]) (.int .i64 7)).run Tryd.prog w = .ok (.string ⟨#[106, 109, 112]⟩) w := by kernel_rfl
theorem nameIdx8 (w : World) : (Instr.index 98 (.agg #[.string ⟨#[104, 97, 108, 116]⟩, .string ⟨#[108, 105]⟩, .string ⟨#[108, 105, 104]⟩, .string ⟨#[109, 111, 118]⟩, .string ⟨#[98, 105, 110]⟩, .string ⟨#[108, 100]⟩, .string ⟨#[115, 116]⟩, .string ⟨#[106, 109, 112]⟩, .string ⟨#[106, 122]⟩, .string ⟨#[99, 97, 108, 108]⟩, .string ⟨#[114, 101, 116]⟩, .string ⟨#[105, 110]⟩, .string ⟨#[111, 117, 116]⟩, .string ⟨#[97, 108, 108, 111, 99]⟩, .string ⟨#[97, 100, 100, 105]⟩]) (.int .i64 8)).run Tryd.prog w = .ok (.string ⟨#[106, 122]⟩) w := by kernel_rfl
theorem nameIdx9 (w : World) : (Instr.index 98 (.agg #[.string ⟨#[104, 97, 108, 116]⟩, .string ⟨#[108, 105]⟩, .string ⟨#[108, 105, 104]⟩, .string ⟨#[109, 111, 118]⟩, .string ⟨#[98, 105, 110]⟩, .string ⟨#[108, 100]⟩, .string ⟨#[115, 116]⟩, .string ⟨#[106, 109, 112]⟩, .string ⟨#[106, 122]⟩, .string ⟨#[99, 97, 108, 108]⟩, .string ⟨#[114, 101, 116]⟩, .string ⟨#[105, 110]⟩, .string ⟨#[111, 117, 116]⟩, .string ⟨#[97, 108, 108, 111, 99]⟩, .string ⟨#[97, 100, 100, 105]⟩]) (.int .i64 9)).run Tryd.prog w = .ok (.string ⟨#[99, 97, 108, 108]⟩) w := by kernel_rfl
theorem nameIdx10 (w : World) : (Instr.index 98 (.agg #[.string ⟨#[104, 97, 108, 116]⟩, .string ⟨#[108, 105]⟩, .string ⟨#[108, 105, 104]⟩, .string ⟨#[109, 111, 118]⟩, .string ⟨#[98, 105, 110]⟩, .string ⟨#[108, 100]⟩, .string ⟨#[115, 116]⟩, .string ⟨#[106, 109, 112]⟩, .string ⟨#[106, 122]⟩, .string ⟨#[99, 97, 108, 108]⟩, .string ⟨#[114, 101, 116]⟩, .string ⟨#[105, 110]⟩, .string ⟨#[111, 117, 116]⟩, .string ⟨#[97, 108, 108, 111, 99]⟩, .string ⟨#[97, 100, 100, 105]⟩]) (.int .i64 10)).run Tryd.prog w = .ok (.string ⟨#[114, 101, 116]⟩) w := by kernel_rfl
theorem nameIdx11 (w : World) : (Instr.index 98 (.agg #[.string ⟨#[104, 97, 108, 116]⟩, .string ⟨#[108, 105]⟩, .string ⟨#[108, 105, 104]⟩, .string ⟨#[109, 111, 118]⟩, .string ⟨#[98, 105, 110]⟩, .string ⟨#[108, 100]⟩, .string ⟨#[115, 116]⟩, .string ⟨#[106, 109, 112]⟩, .string ⟨#[106, 122]⟩, .string ⟨#[99, 97, 108, 108]⟩, .string ⟨#[114, 101, 116]⟩, .string ⟨#[105, 110]⟩, .string ⟨#[111, 117, 116]⟩, .string ⟨#[97, 108, 108, 111, 99]⟩, .string ⟨#[97, 100, 100, 105]⟩]) (.int .i64 11)).run Tryd.prog w = .ok (.string ⟨#[105, 110]⟩) w := by kernel_rfl
theorem nameIdx12 (w : World) : (Instr.index 98 (.agg #[.string ⟨#[104, 97, 108, 116]⟩, .string ⟨#[108, 105]⟩, .string ⟨#[108, 105, 104]⟩, .string ⟨#[109, 111, 118]⟩, .string ⟨#[98, 105, 110]⟩, .string ⟨#[108, 100]⟩, .string ⟨#[115, 116]⟩, .string ⟨#[106, 109, 112]⟩, .string ⟨#[106, 122]⟩, .string ⟨#[99, 97, 108, 108]⟩, .string ⟨#[114, 101, 116]⟩, .string ⟨#[105, 110]⟩, .string ⟨#[111, 117, 116]⟩, .string ⟨#[97, 108, 108, 111, 99]⟩, .string ⟨#[97, 100, 100, 105]⟩]) (.int .i64 12)).run Tryd.prog w = .ok (.string ⟨#[111, 117, 116]⟩) w := by kernel_rfl
theorem nameIdx13 (w : World) : (Instr.index 98 (.agg #[.string ⟨#[104, 97, 108, 116]⟩, .string ⟨#[108, 105]⟩, .string ⟨#[108, 105, 104]⟩, .string ⟨#[109, 111, 118]⟩, .string ⟨#[98, 105, 110]⟩, .string ⟨#[108, 100]⟩, .string ⟨#[115, 116]⟩, .string ⟨#[106, 109, 112]⟩, .string ⟨#[106, 122]⟩, .string ⟨#[99, 97, 108, 108]⟩, .string ⟨#[114, 101, 116]⟩, .string ⟨#[105, 110]⟩, .string ⟨#[111, 117, 116]⟩, .string ⟨#[97, 108, 108, 111, 99]⟩, .string ⟨#[97, 100, 100, 105]⟩]) (.int .i64 13)).run Tryd.prog w = .ok (.string ⟨#[97, 108, 108, 111, 99]⟩) w := by kernel_rfl
theorem nameIdx14 (w : World) : (Instr.index 98 (.agg #[.string ⟨#[104, 97, 108, 116]⟩, .string ⟨#[108, 105]⟩, .string ⟨#[108, 105, 104]⟩, .string ⟨#[109, 111, 118]⟩, .string ⟨#[98, 105, 110]⟩, .string ⟨#[108, 100]⟩, .string ⟨#[115, 116]⟩, .string ⟨#[106, 109, 112]⟩, .string ⟨#[106, 122]⟩, .string ⟨#[99, 97, 108, 108]⟩, .string ⟨#[114, 101, 116]⟩, .string ⟨#[105, 110]⟩, .string ⟨#[111, 117, 116]⟩, .string ⟨#[97, 108, 108, 111, 99]⟩, .string ⟨#[97, 100, 100, 105]⟩]) (.int .i64 14)).run Tryd.prog w = .ok (.string ⟨#[97, 100, 100, 105]⟩) w := by kernel_rfl
set_option maxHeartbeats 8000000 in
theorem inst_nameOf.calls (a0 : Int) (r : ByteArray) (w : World) (h : inst_nameOf.f a0 = some r) :
    Calls Tryd.prog 54 #[.int .i64 a0] w fun e w' => e = .returned (.string r) ∧ Drawn0 w w' := by
  unfold inst_nameOf.f at h
  split at h
  · rename_i hb
    have hc : a0 = 0 ∨ a0 = 1 ∨ a0 = 2 ∨ a0 = 3 ∨ a0 = 4 ∨ a0 = 5 ∨ a0 = 6 ∨ a0 = 7 ∨ a0 = 8 ∨ a0 = 9 ∨ a0 = 10 ∨ a0 = 11 ∨ a0 = 12 ∨ a0 = 13 ∨ a0 = 14 := by omega
    rcases hc with rfl | rfl | rfl | rfl | rfl | rfl | rfl | rfl | rfl | rfl | rfl | rfl | rfl | rfl | rfl
    · obtain rfl := Option.some.inj h
      have hi := nameIdx0
      go_enter Tryd.func54, Tryd.ntmps54
      go_wp2
      go_ret
      exact ⟨rfl, Drawn0.refl _⟩
    · obtain rfl := Option.some.inj h
      have hi := nameIdx1
      go_enter Tryd.func54, Tryd.ntmps54
      go_wp2
      go_ret
      exact ⟨rfl, Drawn0.refl _⟩
    · obtain rfl := Option.some.inj h
      have hi := nameIdx2
      go_enter Tryd.func54, Tryd.ntmps54
      go_wp2
      go_ret
      exact ⟨rfl, Drawn0.refl _⟩
    · obtain rfl := Option.some.inj h
      have hi := nameIdx3
      go_enter Tryd.func54, Tryd.ntmps54
      go_wp2
      go_ret
      exact ⟨rfl, Drawn0.refl _⟩
    · obtain rfl := Option.some.inj h
      have hi := nameIdx4
      go_enter Tryd.func54, Tryd.ntmps54
      go_wp2
      go_ret
      exact ⟨rfl, Drawn0.refl _⟩
    · obtain rfl := Option.some.inj h
      have hi := nameIdx5
      go_enter Tryd.func54, Tryd.ntmps54
      go_wp2
      go_ret
      exact ⟨rfl, Drawn0.refl _⟩
    · obtain rfl := Option.some.inj h
      have hi := nameIdx6
      go_enter Tryd.func54, Tryd.ntmps54
      go_wp2
      go_ret
      exact ⟨rfl, Drawn0.refl _⟩
    · obtain rfl := Option.some.inj h
      have hi := nameIdx7
      go_enter Tryd.func54, Tryd.ntmps54
      go_wp2
      go_ret
      exact ⟨rfl, Drawn0.refl _⟩
    · obtain rfl := Option.some.inj h
      have hi := nameIdx8
      go_enter Tryd.func54, Tryd.ntmps54
      go_wp2
      go_ret
      exact ⟨rfl, Drawn0.refl _⟩
    · obtain rfl := Option.some.inj h
      have hi := nameIdx9
      go_enter Tryd.func54, Tryd.ntmps54
      go_wp2
      go_ret
      exact ⟨rfl, Drawn0.refl _⟩
    · obtain rfl := Option.some.inj h
      have hi := nameIdx10
      go_enter Tryd.func54, Tryd.ntmps54
      go_wp2
      go_ret
      exact ⟨rfl, Drawn0.refl _⟩
    · obtain rfl := Option.some.inj h
      have hi := nameIdx11
      go_enter Tryd.func54, Tryd.ntmps54
      go_wp2
      go_ret
      exact ⟨rfl, Drawn0.refl _⟩
    · obtain rfl := Option.some.inj h
      have hi := nameIdx12
      go_enter Tryd.func54, Tryd.ntmps54
      go_wp2
      go_ret
      exact ⟨rfl, Drawn0.refl _⟩
    · obtain rfl := Option.some.inj h
      have hi := nameIdx13
      go_enter Tryd.func54, Tryd.ntmps54
      go_wp2
      go_ret
      exact ⟨rfl, Drawn0.refl _⟩
    · obtain rfl := Option.some.inj h
      have hi := nameIdx14
      go_enter Tryd.func54, Tryd.ntmps54
      go_wp2
      go_ret
      exact ⟨rfl, Drawn0.refl _⟩
  · cases h
end Go.Proofs.YtmfcmjcgajjiiaaDoor.S
