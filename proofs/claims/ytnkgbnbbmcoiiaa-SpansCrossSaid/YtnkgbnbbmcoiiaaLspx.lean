import Derived.Test.YtnkgbnbbmcoiiaaS9
import Derived.Test.YtnkgbnbbmcoiiaaOnum
namespace Go.Proofs.Ytnkgbnbbmcoiiaa.S
open Go.RowKit Go.Proofs.YtnkgbnbbmcoiiaaW.PrintWords Go.Proofs.YtnkgbnbbmcoiiaaW.PrintLast Go.Proofs.YtnkgbnbbmcoiiaaW.PrintMore
set_option linter.unusedVariables false
/-! ### SpansCross is always true -/
def crB (a1 a2 b1 b2 : Int) : Bool := decide (mx a1 b1 ≤ mn a2 b2)
theorem crB_comm (a1 a2 b1 b2 : Int) : crB a1 a2 b1 b2 = crB b1 b2 a1 a2 := by
  unfold crB mx mn
  congr 1
  apply propext
  split <;> split <;> split <;> split <;> omega
theorem cross_f (a0 a1 a2 b0 b1 b2 : Int) : spans_Cross.f a0 a1 a2 b0 b1 b2 = some (crB a1 a2 b1 b2) := by
  have h1 : a1 ≤ mx a1 b1 := by unfold mx; split <;> omega
  have h2 : b1 ≤ mx a1 b1 := by unfold mx; split <;> omega
  unfold spans_Cross.f spans_has.f crB
  generalize mx a1 b1 = m at h1 h2
  rw [if_pos h1, Option.bind_some, if_pos h2, Option.bind_some]
  by_cases h : m ≤ a2
  · rw [decide_eq_true h, if_pos rfl]
    congr 2
    apply propext
    unfold mn
    split <;> omega
  · rw [decide_eq_false h, if_neg (by decide)]
    congr 1
    symm
    apply decide_eq_false
    unfold mn
    split <;> omega
theorem rcross_f (a0 a1 a2 b0 b1 b2 : Int) : swageref25_Cross.f a0 a1 a2 b0 b1 b2 = some (crB a1 a2 b1 b2) := rfl
/-- From some fuel on. -/
def Ev (g : Nat → Prop) : Prop := ∃ k0, ∀ k, k0 ≤ k → g k
theorem Ev.succ {g h : Nat → Prop} (hg : Ev g) (hs : ∀ k, g k → h (k + 1)) : Ev h := by
  obtain ⟨k0, h0⟩ := hg
  refine ⟨k0 + 1, fun k hk => ?_⟩
  obtain ⟨k', rfl⟩ : ∃ k', k = k' + 1 := ⟨k - 1, by omega⟩
  exact hs k' (h0 k' (by omega))
theorem Ev.and {g h : Nat → Prop} (hg : Ev g) (hh : Ev h) : Ev (fun k => g k ∧ h k) := by
  obtain ⟨k0, h0⟩ := hg
  obtain ⟨k1, h1⟩ := hh
  exact ⟨max k0 k1, fun k hk => ⟨h0 k (by omega), h1 k (by omega)⟩⟩
theorem ints_same (t : List Int) (ht : t.length ≤ 4096) : ∀ m j, j + m = t.length → Ev (fun k => swageref02_Ints.l0 k t t (j : Int) = some true)
  | 0, j, hm => ⟨1, fun k hk => by
      obtain ⟨k', rfl⟩ : ∃ k', k = k' + 1 := ⟨k - 1, by omega⟩
      rw [swageref02_Ints.l0, if_neg (by omega)]⟩
  | m + 1, j, hm => (ints_same t ht m (j + 1) (by omega)).succ (fun k hk => by
      have hj : j < t.length := by omega
      rw [swageref02_Ints.l0, if_pos (by omega), if_pos (Int.natCast_nonneg j), if_pos (by omega), if_pos rfl, num_inc hj ht]
      exact hk)
theorem ints_f (t : List Int) (ht : t.length ≤ 4096) : Ev (fun k => swageref02_Ints.f k t t = some true) := by
  obtain ⟨k0, h0⟩ := ints_same t ht t.length 0 (Nat.zero_add _)
  refine ⟨k0, fun k hk => ?_⟩
  show swageref02_Ints.f k t t = some true
  unfold swageref02_Ints.f
  rw [if_pos rfl]
  exact h0 k hk
theorem at_some (l : List S26) (p : Int) (hl : l.length ≤ 60) : spans_At.f l p = some (srt (ats l p)) := by
  unfold spans_At.f
  rw [if_pos (by omega)]
theorem most_same (l : List S26) (hl : l.length ≤ 60) : ∀ m j, j + m = l.length → ∀ acc : Int, ∃ v, Ev (fun k => spans_Most.l0 k l acc l (l.length : Int) (j : Int) = some v ∧ swageref25_Most.l0 k l acc (j : Int) = some v)
  | 0, j, hm, acc => ⟨acc, 1, fun k hk => by
      obtain ⟨k', rfl⟩ : ∃ k', k = k' + 1 := ⟨k - 1, by omega⟩
      rw [spans_Most.l0, swageref25_Most.l0, if_neg (by omega), if_neg (by omega)]
      exact ⟨rfl, rfl⟩⟩
  | m + 1, j, hm, acc => by
      have hj : j < l.length := by omega
      obtain ⟨v, hv⟩ := most_same l hl m (j + 1) (by omega) (mx acc ((srt (ats l (rd_T26 l (j : Int)).f1)).length : Int))
      refine ⟨v, hv.succ (fun k hk => ?_)⟩
      rw [spans_Most.l0, swageref25_Most.l0, if_pos (by omega), if_pos (Int.natCast_nonneg j), if_pos (by omega), if_pos (by omega), if_pos (Int.natCast_nonneg j)]
      unfold swageref25_At.f
      rw [at_some l _ hl, Option.bind_some, Option.bind_some, num_inc hj (by omega)]
      exact hk
theorem tail_ev (l : List S26) (p : Int) (hl : l.length ≤ 60) : Ev (fun k => swagelaw25_SpansCross.l0 k l p true (l.length : Int) = some true) := by
  obtain ⟨v, hv⟩ := most_same l hl l.length 0 (Nat.zero_add _) 0
  have hlen : (srt (ats l p)).length ≤ 4096 := by
    rw [srt_length]
    have := ats_len l p
    omega
  refine ((ints_f _ hlen).and hv).succ (fun k hk => ?_)
  obtain ⟨h1, h2, h3⟩ := hk
  have h2' : spans_Most.f k l = some v := h2
  have h3' : swageref25_Most.f k l = some v := h3
  rw [swagelaw25_SpansCross.l0, if_neg (Int.lt_irrefl _), if_pos rfl]
  unfold swageref25_At.f
  rw [at_some l p hl, Option.bind_some, Option.bind_some, h1, Option.bind_some, if_pos rfl, h2', Option.bind_some, h3', Option.bind_some]
  simp
theorem inner_ev (l : List S26) (p : Int) (hl : l.length ≤ 60) (i : Nat) (hi : i < l.length) (hn : Ev (fun k => swagelaw25_SpansCross.l0 k l p true ((i + 1 : Nat) : Int) = some true)) : ∀ m j, j + m = l.length → Ev (fun k => swagelaw25_SpansCross.l1 k l p true (i : Int) (j : Int) = some true)
  | 0, j, hm => hn.succ (fun k hk => by
      rw [swagelaw25_SpansCross.l1, if_neg (by omega), num_inc hi (by omega)]
      exact hk)
  | m + 1, j, hm => (inner_ev l p hl i hi hn m (j + 1) (by omega)).succ (fun k hk => by
      have hj : j < l.length := by omega
      rw [swagelaw25_SpansCross.l1, if_pos (by omega), if_pos (Int.natCast_nonneg i), if_pos (by omega), if_pos (Int.natCast_nonneg j), cross_f, cross_f, rcross_f, Option.bind_some, Option.bind_some, if_neg (by simp), Option.bind_some,
        crB_comm (rd_T26 l (j : Int)).f1, if_neg (by simp), num_inc hj (by omega)]
      exact hk)
theorem outer_ev (l : List S26) (p : Int) (hl : l.length ≤ 60) : ∀ m i, i + m = l.length → Ev (fun k => swagelaw25_SpansCross.l0 k l p true (i : Int) = some true)
  | 0, i, hm => by
      have e : i = l.length := by omega
      subst e
      exact tail_ev l p hl
  | m + 1, i, hm => (inner_ev l p hl i (by omega) (outer_ev l p hl m (i + 1) (by omega)) l.length 0 (Nat.zero_add _)).succ (fun k hk => by
      rw [swagelaw25_SpansCross.l0, if_pos (by omega)]
      exact hk)
theorem cross_law (l : List S26) (p : Int) : ∃ k, swagelaw25_SpansCross.f k l p = some true := by
  unfold swagelaw25_SpansCross.f swagelaw25_small.f
  by_cases h : (l.length : Int) > 60
  · exact ⟨0, by rw [Option.bind_some, if_pos h]⟩
  · obtain ⟨k, hk⟩ := outer_ev l p (by omega) l.length 0 (Nat.zero_add _)
    exact ⟨k, by rw [Option.bind_some, if_neg h]; exact hk k (Nat.le_refl _)⟩
end Go.Proofs.Ytnkgbnbbmcoiiaa.S
