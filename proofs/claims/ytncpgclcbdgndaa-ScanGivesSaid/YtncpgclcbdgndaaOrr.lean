import Derived.Test.YtncpgclcbdgndaaOrp
namespace Go.Proofs.Ytncpgclcbdgndaa.S
open Go.RowKit Go.Proofs.YtncpgclcbdgndaaW.PrintWords Go.Proofs.YtncpgclcbdgndaaW.PrintLast Go.Proofs.YtncpgclcbdgndaaW.PrintMore
set_option linter.unusedVariables false
/-! ### The document's Right -/
theorem rright_l1 {l : List S38} (hn : l.length ≤ 9223372036854775807) {i : Nat} (hi : i < l.length) {b : Bool} (hb : ∃ K, ∀ k, K < k → swageref26_Right.l0 k l ((i + 1 : Nat) : Int) = some b) :
    ∀ (m q : Nat), i - q = m → q ≤ i → ∃ K, ∀ k, K < k → swageref26_Right.l1 k l (i : Int) (q : Int) = some (if (rd_T38 l (i : Int)).f0 ∈ ((l.take i).drop q).map (·.f0) then false else b)
  | 0, q, h1, h2 => by
    obtain ⟨K, hK⟩ := hb
    have hw : wrap64 ((i : Int) + 1) = ((i + 1 : Nat) : Int) := by unfold wrap64; omega
    refine ⟨K + 1, fun k hk => ?_⟩
    obtain ⟨k, rfl⟩ : ∃ k', k = k' + 1 := ⟨k - 1, by omega⟩
    simp only [swageref26_Right.l1]
    rw [if_neg (by omega), hw, hK k (by omega), List.drop_of_length_le (by rw [List.length_take]; omega)]
    simp
  | m + 1, q, h1, h2 => by
    obtain ⟨K, hK⟩ := rright_l1 hn hi hb m (q + 1) (by omega) (by omega)
    have hq : q < l.length := by omega
    have hw : wrap64 ((q : Int) + 1) = ((q + 1 : Nat) : Int) := by unfold wrap64; omega
    refine ⟨K + 1, fun k hk => ?_⟩
    obtain ⟨k, rfl⟩ : ∃ k', k = k' + 1 := ⟨k - 1, by omega⟩
    have hd : (l.take i).drop q = rd_T38 l (q : Int) :: (l.take i).drop (q + 1) := by
      rw [List.drop_eq_getElem_cons (by rw [List.length_take]; omega), rd38 hq]
      simp
    simp only [swageref26_Right.l1]
    rw [if_pos (by omega), if_pos (by omega), if_pos (by omega), if_pos (by omega), if_pos (by omega), hw, hK k (by omega), hd, List.map_cons]
    by_cases e : (rd_T38 l (q : Int)).f0 = (rd_T38 l (i : Int)).f0
    · rw [if_pos e, if_pos (by rw [e]; exact List.mem_cons_self)]
    · rw [if_neg e]
      have e2 : ((rd_T38 l (i : Int)).f0 ∈ (rd_T38 l (q : Int)).f0 :: ((l.take i).drop (q + 1)).map (·.f0)) ↔ (rd_T38 l (i : Int)).f0 ∈ ((l.take i).drop (q + 1)).map (·.f0) := by
        rw [List.mem_cons]
        constructor
        · rintro (h | h)
          · exact absurd h.symm e
          · exact h
        · exact fun h => .inr h
      simp only [e2]
theorem rright_l0 {l : List S38} (hn : l.length ≤ 9223372036854775807) : ∀ (m i : Nat), l.length - i = m → i ≤ l.length → ∃ K, ∀ k, K < k → swageref26_Right.l0 k l (i : Int) = some (rgt (l.drop i) ((l.take i).map (·.f0)))
  | 0, i, h1, h2 => by
    refine ⟨0, fun k hk => ?_⟩
    obtain ⟨k, rfl⟩ : ∃ k', k = k' + 1 := ⟨k - 1, by omega⟩
    simp only [swageref26_Right.l0]
    rw [if_neg (by omega), List.drop_of_length_le (by omega)]
    rfl
  | m + 1, i, h1, h2 => by
    have hi : i < l.length := by omega
    have ih := rright_l0 hn m (i + 1) (by omega) (by omega)
    obtain ⟨K, hK⟩ := rright_l1 hn hi ih i 0 (by omega) (Nat.zero_le _)
    rw [List.drop_zero] at hK
    have hd : l.drop i = rd_T38 l (i : Int) :: l.drop (i + 1) := by rw [rd38 hi]; exact List.drop_eq_getElem_cons hi
    have ht : (l.take (i + 1)).map (·.f0) = (l.take i).map (·.f0) ++ [(rd_T38 l (i : Int)).f0] := by rw [List.take_succ_eq_append_getElem hi, List.map_append, rd38 hi]; rfl
    refine ⟨K + 3, fun k hk => ?_⟩
    obtain ⟨k, rfl⟩ : ∃ k', k = k' + 1 + 1 := ⟨k - 2, by omega⟩
    rw [hd]
    simp only [swageref26_Right.l0, rgt]
    rw [if_pos (by omega), if_pos (by omega)]
    by_cases c1 : (rd_T38 l (i : Int)).f0 < 1
    · rw [if_pos c1, if_pos c1]
      simp only [swageref26_Right.j1, if_pos]
    · rw [if_neg c1, if_neg c1]
      by_cases c2 : (rd_T38 l (i : Int)).f0 > 4096
      · rw [if_pos c2, if_pos c2]
        simp only [swageref26_Right.j1, if_pos]
      · rw [if_neg c2, if_neg c2]
        by_cases c3 : (rd_T38 l (i : Int)).f1 > (rd_T38 l (i : Int)).f2
        · rw [decide_eq_true c3, if_pos c3]
          simp only [swageref26_Right.j1, if_pos]
        · rw [decide_eq_false c3, if_neg c3]
          simp only [swageref26_Right.j1, Bool.false_eq_true, if_false]
          rw [← ht]
          have := hK k (by omega)
          rw [Int.natCast_zero] at this
          exact this
theorem rright_f (l : List S38) (hn : l.length ≤ 9223372036854775807) : ∃ K, ∀ k, K < k → swageref26_Right.f k l = some (rgt l []) := by
  obtain ⟨K, hK⟩ := rright_l0 hn l.length 0 rfl (Nat.zero_le _)
  exact ⟨K, fun k hk => hK k hk⟩
/-! ### Bools -/
theorem made_one (z : Value) (n : Nat) : madeCells #[z] n = (List.replicate n z).toArray := by
  apply Array.ext_getElem?
  intro i
  by_cases hi : i < n
  · simp [madeCells, hi, Nat.mod_one]
  · rw [Array.getElem?_eq_none (by rw [size_madeCells]; omega), List.getElem?_toArray, List.getElem?_eq_none (by rw [List.length_replicate]; omega)]
/-- Bools, none of them true, as they lie. -/
def bz (n : Nat) : Array Value := ((List.replicate n false).map Value.bool).toArray
theorem make42 (n : Nat) (hn : n ≤ 4096) (w : World) : (Instr.makeSlice 42 (.int .i64 (n : Int)) (.int .i64 (n : Int))).run Try.prog w = .ok (.slice (some ⟨w.heap.size, 0, none⟩) n n) (w.alloc (.cells (bz n) 4)) := by
  rw [run_make_row' 42 4 (.bool false) 1 Try.underlying42 (by kernel_rfl) rfl .i64 .i64 n (by omega) (by omega) w, made_one, bz, List.map_replicate]
end Go.Proofs.Ytncpgclcbdgndaa.S
