import Derived.Test.YtncpgclcbdgndaaLh
import Derived.Lib.SlicesCompact
namespace Go.Proofs.Ytncpgclcbdgndaa.S
open Go.RowKit Go.Proofs.YtncpgclcbdgndaaW.PrintWords Go.Proofs.YtncpgclcbdgndaaW.PrintLast Go.Proofs.YtncpgclcbdgndaaW.PrintMore
set_option linter.unusedVariables false
/-! ### What is used -/
theorem keeps_iff (d : Array Int) (j : Nat) : Lib.keeps d j = true ↔ j = 0 ∨ d[j]! ≠ d[j - 1]! := by
  unfold Lib.keeps
  simp
theorem compact_spec (d : Array Int) (hs : ∀ i j, i < j → j < d.size → d[i]! ≤ d[j]!) : ∀ m, m ≤ d.size → (Lib.compactUpTo d m).Pairwise (· < ·) ∧ ∀ x, x ∈ Lib.compactUpTo d m ↔ ∃ j, j < m ∧ d[j]! = x
  | 0, _ => by simp [Lib.compactUpTo]
  | m + 1, h => by
    obtain ⟨h1, h2⟩ := compact_spec d hs m (by omega)
    rw [Lib.compactUpTo_succ]
    by_cases hk : Lib.keeps d m = true
    · rw [if_pos hk]
      refine ⟨?_, fun x => ?_⟩
      · rw [List.pairwise_append]
        refine ⟨h1, by simp, fun x hx y hy => ?_⟩
        obtain ⟨j, hj, rfl⟩ := (h2 x).1 hx
        simp only [List.mem_singleton] at hy
        subst hy
        rcases (keeps_iff d m).1 hk with h0 | h0
        · omega
        · have h3 : d[m - 1]! ≤ d[m]! := hs (m - 1) m (by omega) (by omega)
          have h4 : d[j]! ≤ d[m - 1]! := by
            by_cases e : j = m - 1
            · rw [e]; exact Int.le_refl _
            · exact hs j (m - 1) (by omega) (by omega)
          omega
      · rw [List.mem_append, List.mem_singleton, h2]
        constructor
        · rintro (⟨j, hj, rfl⟩ | rfl)
          · exact ⟨j, by omega, rfl⟩
          · exact ⟨m, by omega, rfl⟩
        · rintro ⟨j, hj, rfl⟩
          by_cases e : j = m
          · subst e; exact .inr rfl
          · exact .inl ⟨j, by omega, rfl⟩
    · rw [if_neg hk, List.append_nil]
      have h0 : ¬ (m = 0 ∨ d[m]! ≠ d[m - 1]!) := fun h => hk ((keeps_iff d m).2 h)
      have h3 : m ≠ 0 := fun h => h0 (.inl h)
      have h4 : d[m]! = d[m - 1]! := Classical.byContradiction fun h => h0 (.inr h)
      refine ⟨h1, fun x => ?_⟩
      rw [h2]
      constructor
      · rintro ⟨j, hj, rfl⟩
        exact ⟨j, by omega, rfl⟩
      · rintro ⟨j, hj, rfl⟩
        by_cases e : j = m
        · subst e; exact ⟨j - 1, by omega, h4.symm⟩
        · exact ⟨j, by omega, rfl⟩
theorem compact_srt (zs : List Int) : (Lib.compact (srt zs)).Pairwise (· < ·) ∧ ∀ x, x ∈ Lib.compact (srt zs) ↔ x ∈ zs := by
  have hp : (srt zs).Perm zs := List.mergeSort_perm _ _
  have hs : (srt zs).Pairwise (fun a b => (decide (a ≤ b)) = true) := List.pairwise_mergeSort (fun a b c h1 h2 => by simp only [decide_eq_true_eq] at *; omega) (fun a b => by simp only [Bool.or_eq_true, decide_eq_true_eq]; omega) _
  rw [List.pairwise_iff_getElem] at hs
  have h := compact_spec (srt zs).toArray (fun i j hij hj => by
    have hj' : j < (srt zs).length := by simpa using hj
    have := hs i j (by omega) hj' hij
    rw [getElem!_pos (srt zs).toArray i (by simpa using (by omega : i < (srt zs).length)), getElem!_pos (srt zs).toArray j hj]
    simpa using this) (srt zs).length (by simp)
  refine ⟨h.1, fun x => ?_⟩
  rw [← hp.mem_iff, show Lib.compact (srt zs) = Lib.compactUpTo (srt zs).toArray (srt zs).length from rfl, h.2 x]
  constructor
  · rintro ⟨j, hj, rfl⟩
    rw [getElem!_pos (srt zs).toArray j (by simpa using hj)]
    simp
  · intro hx
    obtain ⟨j, hj, rfl⟩ := List.mem_iff_getElem.1 hx
    exact ⟨j, hj, by rw [getElem!_pos (srt zs).toArray j (by simpa using hj)]; simp⟩
theorem strict_le {zs : List Int} {n : Nat} (h : zs.Pairwise (· < ·)) (hm : ∀ x ∈ zs, 0 ≤ x ∧ x < (n : Int)) : zs.length ≤ n := by
  have hnd : zs.Nodup := h.imp fun {a b} h e => by omega
  have hsub : zs ⊆ (List.range n).map fun i : Nat => (i : Int) := fun x hx => by
    obtain ⟨a, b⟩ := hm x hx
    exact List.mem_map.2 ⟨x.toNat, List.mem_range.2 (by omega), by omega⟩
  have := List.Nodup.length_le_of_subset hnd hsub
  simpa using this
end Go.Proofs.Ytncpgclcbdgndaa.S
