import Derived.Test.YtncpgclcbdgndaaLh
import Derived.Test.YtncpgclcbdgndaaS9d
namespace Go.Proofs.Ytncpgclcbdgndaa.S
open Go.RowKit Go.Proofs.YtncpgclcbdgndaaW.PrintWords Go.Proofs.YtncpgclcbdgndaaW.PrintLast Go.Proofs.YtncpgclcbdgndaaW.PrintMore
set_option linter.unusedVariables false
/-! ### ScanMore -/
theorem slM_anti {l : List S38} (h : rgt l [] = true) (r : Nat) (hr : r + 1 ≤ 16) : (HS (r + 1) l).sl ≤ (HS r l).sl :=
  Scan.homes_more hr (fun k hk => (rgt_at h (ordOf_mem.1 hk)).2.2) ordOf_nodup ordOf_F (fun a ha b hb hab => rgt_inj h (ordOf_mem.1 ha) (ordOf_mem.1 hb) hab)
theorem sl_none (l : List S38) : (HS 0 l).sl = l.length := by
  have := Scan.homes_none (F := fF l) (T := fT l) (R := fR l) (ordOf l) Scan.st0
  unfold HS Scan.homes
  rw [this, ordOf_length]
  show 0 + _ = _
  omega
theorem more_loop {l : List S38} (h : rgt l [] = true) : ∀ (m k r : Nat) (n : Int), 17 - r = m → r ≤ 17 → l.length + m < k → (r = 0 → n = (l.length : Int)) → (∀ r', r = r' + 1 → n = ((HS r' l).sl : Int)) → swagelaw26_ScanMore.l0 k l true n (r : Int) = some true
  | 0, k + 1, r, n, h1, h2, h3, h4, h5 => by
    simp only [swagelaw26_ScanMore.l0]
    rw [if_neg (by omega)]
  | m + 1, k + 1, r, n, h1, h2, h3, h4, h5 => by
    have ih := more_loop h m k (r + 1) ((HS r l).sl : Int) (by omega) (by omega) (by omega) (by omega) (fun r' e => by
      obtain rfl : r = r' := by omega
      rfl)
    have hr : r ≤ 16 := by omega
    have hw : wrap64 ((r : Int) + 1) = ((r + 1 : Nat) : Int) := by unfold wrap64; omega
    simp only [swagelaw26_ScanMore.l0]
    rw [if_pos (by omega), homes_f h (by omega) (by omega)]
    simp only [Option.bind_some, Int.toNat_natCast]
    rw [slots_homes h hr k (by omega)]
    simp only [Option.bind_some, if_pos]
    have hle : ¬ ((HS r l).sl : Int) > n := by
      cases r with
      | zero => rw [h4 rfl, sl_none]; omega
      | succ r => rw [h5 r rfl]; have := slM_anti h r hr; omega
    rw [if_neg hle, hw]
    by_cases hz : (r : Int) = 0
    · rw [if_pos hz]
      obtain rfl : r = 0 := by omega
      rw [if_pos (by rw [sl_none])]
      exact ih
    · rw [if_neg hz]
      exact ih
theorem more_law (l : List S38) : swagelaw26_ScanMore.f 100 l = some true := by
  unfold swagelaw26_ScanMore.f swagelaw26_small.f
  simp only [Option.bind_some]
  by_cases hn : (l.length : Int) > 60
  · rw [if_pos hn]
    rfl
  · rw [if_neg hn]
    unfold scan_Right.f
    simp only [Option.bind_some]
    cases h : rgt l [] with
    | false => rfl
    | true =>
      show swagelaw26_ScanMore.l0 99 l true (l.length : Int) 0 = some true
      exact more_loop h 17 99 0 _ rfl (by omega) (by omega) (fun _ => rfl) (fun r' e => by omega)
end Go.Proofs.Ytncpgclcbdgndaa.S
