import Derived.Test.YtnkgbnbbmcoiiaaOpw
import Derived.Test.YtnkgbnbbmcoiiaaRel
import Derived.Laws.AppendOwnNone
import Derived.ArgAppend
import Derived.Test.YtnkgbnbbmcoiiaaOover
namespace Go.Proofs.Ytnkgbnbbmcoiiaa.S
open Go.RowKit Go.Proofs.YtnkgbnbbmcoiiaaW.PrintWords Go.Proofs.YtnkgbnbbmcoiiaaW.PrintLast Go.Proofs.YtnkgbnbbmcoiiaaW.PrintMore
set_option linter.unusedVariables false
/-! ### Worlds behind an append in place -/
structure Sx (z : Nat) (xs : List Int) (x : Int) (w w' : World) : Prop where
  os : w'.os = w.os
  tape : w'.tape = w.tape
  output : w'.output = w.output
  size : w.heap.size ≤ w'.heap.size
  block : ∀ g, g < w.heap.size → w'.heap[g]? = w.heap[g]? ∨ (z ≤ g ∧ ∃ cur, w.heap[g]? = some (.cells cur 3 (0, 0)) ∧ xs.length < cur.size ∧ cur.toList.take xs.length = nums .i64 xs ∧ w'.heap[g]? = some (.cells (cur.setIfInBounds xs.length (.int .i64 x)) 3 (0, 0)))
section
variable {z : Nat} {xs : List Int} {x : Int} {w w' w0 : World}
theorem Sx.refl (z : Nat) (xs : List Int) (x : Int) (w : World) : Sx z xs x w w := ⟨rfl, rfl, rfl, Nat.le_refl _, fun _ _ => .inl rfl⟩
theorem Sx.of_below (h : Below w.heap.size w w') : Sx z xs x w w' := ⟨h.os, h.tape, h.output, h.size, fun g hg => .inl (h.block g hg)⟩
theorem Sx.cls (h : Below z w0 w) (k : Sx z xs x w w') (hz : z ≤ w.heap.size) : Below z w0 w' :=
  ⟨k.os.trans h.os, k.tape.trans h.tape, k.output.trans h.output, Nat.le_trans h.size k.size, fun g hg => by
    rcases k.block g (by omega) with h1 | ⟨h1, _⟩
    · exact h1.trans (h.block g hg)
    · omega⟩
theorem Sx.lt (h : Sx z xs x w w') {g : Nat} {cur : Array Value} (hg : w.heap[g]? = some (.cells cur 3 (0, 0))) : w'.heap[g]? = some (.cells cur 3 (0, 0)) ∨ (xs.length < cur.size ∧ w'.heap[g]? = some (.cells (cur.setIfInBounds xs.length (.int .i64 x)) 3 (0, 0))) := by
  rcases h.block g (Array.getElem?_eq_some_iff.1 hg).1 with h1 | ⟨_, cur', h1, h2, h3, h4⟩
  · exact .inl (h1.trans hg)
  · rw [hg] at h1
    injection h1 with h1
    injection h1 with h1
    subst h1
    exact .inr ⟨h2, h4⟩
theorem take_set {cur : Array Value} {n : Nat} {v : Value} : (cur.setIfInBounds n v).toList.take n = cur.toList.take n := by
  rw [Array.toList_setIfInBounds, List.take_set_of_le (Nat.le_refl _)]
end
/-! ### The insertion -/
end Go.Proofs.Ytnkgbnbbmcoiiaa.S
namespace Go.Proofs.Ytnkgbnbbmcoiiaa.S
open Go.RowKit Go.Proofs.YtnkgbnbbmcoiiaaW.PrintWords Go.Proofs.YtnkgbnbbmcoiiaaW.PrintLast Go.Proofs.YtnkgbnbbmcoiiaaW.PrintMore
set_option linter.unusedVariables false
/-! ### The two appends among the drawn -/
theorem info3' : (Try.prog.info? 3).map (fun i => (i.zero, i.size, i.bytes)) = some (some (.int .i64 0), 1, 8) := by kernel_rfl
theorem nums_cells {w : World} {ad : Addr} {ys : List Int} (hc : ∀ j, j < ys.length → w.cell? (ad.add j) = some (.int .i64 (ys.getD j 0))) : ∀ (j : Nat) (u : Value), (nums .i64 ys)[j]? = some u → w.cell? (ad.add j) = some u := by
  intro j u hu
  have hj : j < ys.length := by
    rcases Nat.lt_or_ge j ys.length with h | h
    · exact h
    · simp [nums, List.getElem?_eq_none h] at hu
  rw [hc j hj]
  simp [nums, List.getElem?_eq_getElem hj] at hu
  rw [← hu]
  simp [List.getD_eq_getElem?_getD, List.getElem?_eq_getElem hj]
theorem nums_one (ys : List Int) : ∀ u ∈ nums .i64 ys, u.oneCell' = true := by
  intro u hu
  simp only [nums, List.mem_map] at hu
  obtain ⟨q, _, rfl⟩ := hu
  rfl
section
variable {ops : Array Oper} {rest : List Oper} {o : Oper} {a : Act} {Q : Exit → Act → World → Prop}
end
end Go.Proofs.Ytnkgbnbbmcoiiaa.S
namespace Go.Proofs.Ytnkgbnbbmcoiiaa.S
open Go.RowKit Go.Proofs.YtnkgbnbbmcoiiaaW.PrintWords Go.Proofs.YtnkgbnbbmcoiiaaW.PrintLast Go.Proofs.YtnkgbnbbmcoiiaaW.PrintMore Go.RelRegion
set_option linter.unusedVariables false
/-! ### swageref25.At (printed by gen_rat.py) -/
/-- The row so far. -/
def Gd (H : List S26) (p : Int) (i : Nat) (out : List Int) : Prop := out.Pairwise (· ≤ ·) ∧ out.Perm (ats (H.take i) p)
theorem Gd.len {H : List S26} {p : Int} {i : Nat} {out : List Int} (h : Gd H p i out) : out.length ≤ i := by
  rw [h.2.length_eq]
  have := ats_len (H.take i) p
  rw [List.length_take] at this
  omega
theorem Gd.skip {H : List S26} {p : Int} {i : Nat} {out : List Int} (h : Gd H p i out) (hi : i < H.length) (hx : hasP (rd_T26 H (i : Int)) p = false) : Gd H p (i + 1) out := ⟨h.1, by rw [ats_take hi, hx]; exact h.2⟩
theorem Gd.all {H : List S26} {p : Int} {out : List Int} (h : Gd H p H.length out) : out = srt (ats H p) := by
  have h2 := h.2
  rw [List.take_length] at h2
  unfold srt
  rw [← mergeSort_of_perm_i h2]
  exact (List.mergeSort_of_pairwise (h.1.imp (fun hab => by simpa using hab))).symm
end Go.Proofs.Ytnkgbnbbmcoiiaa.S
