import Derived.Test.YtncpgclcbdgndaaOused
import Derived.Test.YtncpgclcbdgndaaOhomes
import Derived.Test.YtncpgclcbdgndaaLcomp
import Derived.Test.YtncpgclcbdgndaaRel
namespace Go.Proofs.Ytncpgclcbdgndaa.S
open Go.RowKit Go.Proofs.YtncpgclcbdgndaaW.PrintWords Go.Proofs.YtncpgclcbdgndaaW.PrintLast Go.Proofs.YtncpgclcbdgndaaW.PrintMore
set_option linter.unusedVariables false
/-! ### Worlds behind an append in place -/
structure Sx (z : Nat) (xs : List Int) (x : Int) (w w' : World) : Prop where
  os : w'.os = w.os
  tape : w'.tape = w.tape
  output : w'.output = w.output
  size : w.heap.size ≤ w'.heap.size
  block : ∀ g, g < w.heap.size → w'.heap[g]? = w.heap[g]? ∨ (z ≤ g ∧ ∃ cur, w.heap[g]? = some (.cells cur 3 (0, 0)) ∧ xs.length < cur.size ∧ cur.toList.take xs.length = nums .i64 xs ∧ w'.heap[g]? = some (.cells (cur.setIfInBounds xs.length (.int .i64 x)) 3 (0, 0)))
section
variable {z : Nat} {xs : List Int} {x : Int} {w w' w0 : World}
theorem Sx.refl (z : Nat) (xs : List Int) (x : Int) (w : World) : Sx z xs x w w := ⟨rfl, rfl, rfl, Nat.le_refl _, fun _ _ => .inl rfl⟩
theorem Sx.of_below (h : Below w.heap.size w w') : Sx z xs x w w' := ⟨h.os, h.tape, h.output, h.size, fun g hg => .inl (h.block g hg)⟩
theorem Sx.cls (h : Below z w0 w) (k : Sx z xs x w w') (hz : z ≤ w.heap.size) : Below z w0 w' :=
  ⟨k.os.trans h.os, k.tape.trans h.tape, k.output.trans h.output, Nat.le_trans h.size k.size, fun g hg => by
    rcases k.block g (by omega) with h1 | ⟨h1, _⟩
    · exact h1.trans (h.block g hg)
    · omega⟩
/-- What the loud operations tell. -/
def Rx (z : Nat) (xs : List Int) (x : Int) (n : Nat) (vs : List Value) (W : World) : Prop :=
  if n = 0 then ∃ g, vs = [.slice (some ⟨g, 0, none⟩) 0 0] ∧ z ≤ g ∧ W.heap[g]? = some (.cells #[] 3 (0, 0))
  else if n = 10 then ∃ g, vs = [.slice (some ⟨g, 0, none⟩) 1 1] ∧ z ≤ g ∧ W.heap[g]? = some (.cells #[.int .i64 x] 3 (0, 0))
  else if n = 4 then ∃ g cap cur, vs = [.slice (some ⟨g, 0, none⟩) xs.length cap] ∧ z ≤ g ∧ W.heap[g]? = some (.cells cur 3 (0, 0)) ∧ xs.length ≤ cap ∧ cap ≤ maxLen ∧ cur.size = cap ∧ cur.toList.take xs.length = nums .i64 xs
  else if n = 11 then ∃ g cap cur, vs = [.slice (some ⟨g, 0, none⟩) (xs.length + 1) cap] ∧ z ≤ g ∧ W.heap[g]? = some (.cells cur 3 (0, 0)) ∧ xs.length + 1 ≤ cap ∧ cap ≤ maxLen ∧ cur.size = cap ∧ cur.toList.take (xs.length + 1) = nums .i64 (xs ++ [x])
  else True
theorem Sx.lt (h : Sx z xs x w w') {g : Nat} {cur : Array Value} (hg : w.heap[g]? = some (.cells cur 3 (0, 0))) : w'.heap[g]? = some (.cells cur 3 (0, 0)) ∨ (xs.length < cur.size ∧ w'.heap[g]? = some (.cells (cur.setIfInBounds xs.length (.int .i64 x)) 3 (0, 0))) := by
  rcases h.block g (Array.getElem?_eq_some_iff.1 hg).1 with h1 | ⟨_, cur', h1, h2, h3, h4⟩
  · exact .inl (h1.trans hg)
  · rw [hg] at h1
    injection h1 with h1
    injection h1 with h1
    subst h1
    exact .inr ⟨h2, h4⟩
theorem take_set {cur : Array Value} {n : Nat} {v : Value} : (cur.setIfInBounds n v).toList.take n = cur.toList.take n := by
  rw [Array.toList_setIfInBounds, List.take_set_of_le (Nat.le_refl _)]
theorem Rx.keep (n : Nat) (vs : List Value) (a b : World) (h : Rx z xs x n vs a) (k : Sx z xs x a b) : Rx z xs x n vs b := by
  unfold Rx at h ⊢
  split at h
  · rename_i e; rw [if_pos e]
    obtain ⟨g, h1, h2, h3⟩ := h
    refine ⟨g, h1, h2, ?_⟩
    rcases k.lt h3 with h4 | ⟨h4, _⟩
    · exact h4
    · simp at h4
  · rename_i e; rw [if_neg e]
    split at h
    · rename_i e2; rw [if_pos e2]
      obtain ⟨g, h1, h2, h3⟩ := h
      refine ⟨g, h1, h2, ?_⟩
      rcases k.lt h3 with h4 | ⟨h4, h5⟩
      · exact h4
      · have h6 : xs.length = 0 := by simpa using h4
        rw [h5, h6]
        rfl
    · rename_i e2; rw [if_neg e2]
      split at h
      · rename_i e3; rw [if_pos e3]
        obtain ⟨g, cap, cur, h1, h2, h3, h4, h5, h6, h7⟩ := h
        rcases k.lt h3 with h8 | ⟨_, h8⟩
        · exact ⟨g, cap, cur, h1, h2, h8, h4, h5, h6, h7⟩
        · exact ⟨g, cap, _, h1, h2, h8, h4, h5, by rw [Array.size_setIfInBounds]; exact h6, by rw [take_set]; exact h7⟩
      · rename_i e3; rw [if_neg e3]
        split at h
        · rename_i e4; rw [if_pos e4]
          obtain ⟨g, cap, cur, h1, h2, h3, h4, h5, h6, h7⟩ := h
          rcases k.lt h3 with h8 | ⟨hlt, h8⟩
          · exact ⟨g, cap, cur, h1, h2, h8, h4, h5, h6, h7⟩
          · refine ⟨g, cap, _, h1, h2, h8, h4, h5, by rw [Array.size_setIfInBounds]; exact h6, ?_⟩
            have e5 : cur.toList[xs.length]? = some (.int .i64 x) := by
              have e6 := congrArg (·[xs.length]?) h7
              simpa [List.getElem?_take, nums] using e6
            have e7 : cur.setIfInBounds xs.length (.int .i64 x) = cur := by
              apply Array.ext_getElem?
              intro i
              rw [Array.getElem?_setIfInBounds]
              split
              · rename_i e8
                subst e8
                rw [← e5, Array.getElem?_toList]
              · rfl
            rw [e7]
            exact h7
        · rename_i e4; rw [if_neg e4]; trivial
end
/-! ### The insertion -/
def insAt (out : List Int) (k : Nat) (x : Int) : List Int := out.take k ++ [x] ++ out.drop k
theorem ins_sorted {out : List Int} (h : out.Pairwise (· < ·)) {k : Nat} (hk : k ≤ out.length) {x : Int} (h1 : ∀ q, q < k → out.getD q 0 < x) (h2 : k < out.length → x < out.getD k 0) : (insAt out k x).Pairwise (· < ·) := by
  unfold insAt
  have h' := h
  rw [← List.take_append_drop k out, List.pairwise_append] at h'
  obtain ⟨a1, a2, a3⟩ := h'
  rw [List.pairwise_append, List.pairwise_append]
  have b1 : ∀ y ∈ out.take k, y < x := fun y hy => by
    obtain ⟨q, hq, rfl⟩ := List.mem_take_iff_getElem.1 hy
    have := h1 q (by omega)
    rwa [List.getD_eq_getElem?_getD, List.getElem?_eq_getElem (by omega)] at this
  have b2 : ∀ y ∈ out.drop k, x < y := fun y hy => by
    obtain ⟨q, hq, rfl⟩ := List.mem_drop_iff_getElem.1 hy
    have hkl : k < out.length := by omega
    have h3 := h2 hkl
    rw [List.getD_eq_getElem?_getD, List.getElem?_eq_getElem hkl] at h3
    simp only [Option.getD_some] at h3
    rw [List.pairwise_iff_getElem] at h
    by_cases e : q = 0
    · subst e; simpa using h3
    · have := h k (k + q) hkl (by omega) (by omega)
      omega
  refine ⟨⟨a1, by simp, fun y hy v hv => ?_⟩, a2, fun y hy v hv => ?_⟩
  · simp only [List.mem_singleton] at hv
    rw [hv]
    exact b1 y hy
  · rcases List.mem_append.1 hy with hy | hy
    · exact a3 y hy v hv
    · simp only [List.mem_singleton] at hy
      rw [hy]
      exact b2 v hv
theorem ins_mem {out : List Int} {k : Nat} {x y : Int} : y ∈ insAt out k x ↔ y ∈ out ∨ y = x := by
  unfold insAt
  rw [List.mem_append, List.mem_append, List.mem_singleton]
  conv => rhs; rw [← List.take_append_drop k out, List.mem_append]
  constructor
  · rintro ((h | h) | h)
    · exact .inl (.inl h)
    · exact .inr h
    · exact .inl (.inr h)
  · rintro ((h | h) | h)
    · exact .inl (.inl h)
    · exact .inr h
    · exact .inl (.inr h)
/-- The row so far. -/
def Good (H : List S40) (i : Nat) (out : List Int) : Prop := out.Pairwise (· < ·) ∧ ∀ y, y ∈ out ↔ y ∈ used (H.take i)
theorem Good.len {H : List S40} {i : Nat} {out : List Int} (h : Good H i out) : out.length ≤ i := by
  have hnd : out.Nodup := h.1.imp fun {a b} h e => by omega
  have h1 := List.Nodup.length_le_of_subset hnd (fun y hy => (h.2 y).1 hy)
  have h2 := used_len (H.take i)
  rw [List.length_take] at h2
  omega
theorem Good.skip {H : List S40} {i : Nat} {out : List Int} (h : Good H i out) (hi : i < H.length) (hx : ¬ 0 ≤ (rd_T40 H (i : Int)).f0) : Good H (i + 1) out := ⟨h.1, fun y => by rw [used_take hi, if_neg hx]; exact h.2 y⟩
theorem Good.have {H : List S40} {i : Nat} {out : List Int} (h : Good H i out) (hi : i < H.length) (hx : 0 ≤ (rd_T40 H (i : Int)).f0) (hm : (rd_T40 H (i : Int)).f0 ∈ out) : Good H (i + 1) out := ⟨h.1, fun y => by
  rw [used_take hi, if_pos hx, List.mem_append, List.mem_singleton, ← h.2 y]
  constructor
  · exact fun h => .inl h
  · rintro (h | rfl)
    · exact h
    · exact hm⟩
theorem Good.ins {H : List S40} {i : Nat} {out : List Int} (h : Good H i out) (hi : i < H.length) (hx : 0 ≤ (rd_T40 H (i : Int)).f0) {k : Nat} (hk : k ≤ out.length) (h1 : ∀ q, q < k → out.getD q 0 < (rd_T40 H (i : Int)).f0) (h2 : k < out.length → (rd_T40 H (i : Int)).f0 < out.getD k 0) : Good H (i + 1) (insAt out k (rd_T40 H (i : Int)).f0) :=
  ⟨ins_sorted h.1 hk h1 h2, fun y => by rw [ins_mem, used_take hi, if_pos hx, List.mem_append, List.mem_singleton, h.2 y]⟩
theorem Good.all {H : List S40} {out : List Int} (h : Good H H.length out) : out = Lib.compact (srt (used H)) := by
  obtain ⟨c1, c2⟩ := compact_srt (used H)
  have hnd : out.Nodup := h.1.imp fun {a b} h e => by omega
  have hnd2 : (Lib.compact (srt (used H))).Nodup := c1.imp fun {a b} h e => by omega
  have hp : out.Perm (Lib.compact (srt (used H))) := (List.perm_ext_iff_of_nodup hnd hnd2).2 fun y => by
    rw [h.2 y, c2 y, List.take_length]
  exact perm_sorted_eq hp h.1 c1 fun a _ b _ h1 h2 => by omega
def swageref26_Used.f (l0 : List S40) : Option (List Int) := scan_Used.f l0
end Go.Proofs.Ytncpgclcbdgndaa.S
