import Derived.Test.YtncpgclcbdgndaaLrfit
import Derived.Test.YtncpgclcbdgndaaS9c
namespace Go.Proofs.Ytncpgclcbdgndaa.S
open Go.RowKit Go.Proofs.YtncpgclcbdgndaaW.PrintWords Go.Proofs.YtncpgclcbdgndaaW.PrintLast Go.Proofs.YtncpgclcbdgndaaW.PrintMore
set_option linter.unusedVariables false
/-! ### ScanFits -/
theorem fits_law (k : Nat) (hk : 4100 ≤ k) (l : List S38) (H : List S40) (regs : Int) (hI : ∀ x ∈ H, i64 x.f1) : swagelaw26_ScanFits.f (k + 1) l H regs = some true := by
  have hj : swagelaw26_ScanFits.j0 (k + 1) l H regs true true = some true := by
    simp only [swagelaw26_ScanFits.j0, if_pos]
  unfold swagelaw26_ScanFits.f swagelaw26_small.f
  simp only [Option.bind_some]
  by_cases c0 : (l.length : Int) > 60
  · rw [if_pos c0]; exact hj
  rw [if_neg c0]
  by_cases c1 : (H.length : Int) > 60
  · rw [decide_eq_true c1]; exact hj
  rw [decide_eq_false c1]
  clear hj
  have hn : H.length ≤ 60 := by omega
  have hu : scan_Used.f H = some (Lib.compact (srt (used H))) := by
    unfold scan_Used.f
    rw [if_pos (by omega)]
  have hul : (Lib.compact (srt (used H))).length ≤ 60 := by
    have h1 := (compact_srt (used H)).1
    have hnd : (Lib.compact (srt (used H))).Nodup := h1.imp fun {a b} h e => by omega
    have h2 := List.Nodup.length_le_of_subset hnd (fun y hy => ((compact_srt (used H)).2 y).1 hy)
    have h3 := used_len H
    omega
  have hru : swageref26_Used.f H = some (Lib.compact (srt (used H))) := hu
  simp only [swagelaw26_ScanFits.j0, Bool.false_eq_true, if_false, if_pos]
  rw [fits_f l H regs hn k (by omega), rfits_f l H regs hn k (by omega)]
  simp only [Option.bind_some, beq_self_eq_true, if_pos]
  rw [slots_f H (by omega) hI k (by omega), rslots_f H (by omega) hI k (by omega)]
  simp only [Option.bind_some, if_pos]
  rw [hu, hru]
  simp only [Option.bind_some]
  rw [ints_f _ (by omega) k (by omega)]
  rfl
end Go.Proofs.Ytncpgclcbdgndaa.S
