import Derived.Test.YtncpgclcbdgndaaLh
import Derived.Test.YtncpgclcbdgndaaOrr
import Derived.Test.YtncpgclcbdgndaaS9b
import Derived.Test.YtncpgclcbdgndaaS7
namespace Go.Proofs.Ytncpgclcbdgndaa.S
open Go.RowKit Go.Proofs.YtncpgclcbdgndaaW.PrintWords Go.Proofs.YtncpgclcbdgndaaW.PrintLast Go.Proofs.YtncpgclcbdgndaaW.PrintMore
set_option linter.unusedVariables false
/-! ### ScanGives -/
theorem same40_loop (H : List S40) (hn : H.length ≤ 1000000000000) : ∀ (m k i : Nat), H.length - i = m → i ≤ H.length → m < k → swageref26_Same.l0 k H H (i : Int) = some true
  | 0, k + 1, i, h1, h2, h3 => by
    simp only [swageref26_Same.l0]
    rw [if_neg (by omega)]
  | m + 1, k + 1, i, h1, h2, h3 => by
    have hi : i < H.length := by omega
    have ih := same40_loop H hn m k (i + 1) (by omega) (by omega) (by omega)
    simp only [swageref26_Same.l0]
    rw [if_pos (by omega), if_pos (by omega), if_pos (by omega), succ64 hi hn, if_neg (by simp)]
    exact ih
theorem same40_f (H : List S40) (hn : H.length ≤ 1000000000000) (k : Nat) (hk : H.length < k) : swageref26_Same.f k H H = some true := by
  unfold swageref26_Same.f
  rw [if_pos rfl]
  exact same40_loop H hn H.length k 0 rfl (Nat.zero_le _) hk
theorem same38_loop (H : List S38) (hn : H.length ≤ 1000000000000) : ∀ (m k i : Nat), H.length - i = m → i ≤ H.length → m < k → swageref25_Same.l0 k H H (i : Int) = some true
  | 0, k + 1, i, h1, h2, h3 => by
    simp only [swageref25_Same.l0]
    rw [if_neg (by omega)]
  | m + 1, k + 1, i, h1, h2, h3 => by
    have hi : i < H.length := by omega
    have ih := same38_loop H hn m k (i + 1) (by omega) (by omega) (by omega)
    simp only [swageref25_Same.l0]
    rw [if_pos (by omega), if_pos (by omega), if_pos (by omega), succ64 hi hn, if_neg (by simp)]
    exact ih
theorem same38_f (H : List S38) (hn : H.length ≤ 1000000000000) (k : Nat) (hk : H.length < k) : swageref25_Same.f k H H = some true := by
  unfold swageref25_Same.f
  rw [if_pos rfl]
  exact same38_loop H hn H.length k 0 rfl (Nat.zero_le _) hk
theorem gives_law (l : List S38) (a1 : Int) : ∃ k, swagelaw26_ScanGives.f k l a1 = some true := by
  by_cases c0 : (l.length : Int) > 60
  · refine ⟨0, ?_⟩
    unfold swagelaw26_ScanGives.f swagelaw26_small.f
    simp only [Option.bind_some]
    rw [if_pos c0]
  · obtain ⟨K, hK⟩ := rright_f l (by omega)
    have hlen : ∀ r : List S40 × Int, scan_Homes.f l a1 = some r → r.1.length ≤ 60 := fun r hr => by
      have e := Option.some.inj hr
      subst e
      split
      · rw [homesRow_length]; omega
      · simp
    obtain ⟨r, hr⟩ : ∃ r, scan_Homes.f l a1 = some r := ⟨_, rfl⟩
    refine ⟨K + 100, ?_⟩
    unfold swagelaw26_ScanGives.f swagelaw26_small.f swageref26_Homes.f
    simp only [Option.bind_some]
    rw [if_neg c0, List.length_nil, if_pos (by omega), List.nil_append, hr]
    simp only [Option.bind_some, if_pos]
    rw [same40_f r.1 (by have := hlen r hr; omega) (K + 100) (by have := hlen r hr; omega), hK (K + 100) (by omega), same38_f l (by omega) (K + 100) (by omega)]
    unfold scan_Right.f
    simp
end Go.Proofs.Ytncpgclcbdgndaa.S
