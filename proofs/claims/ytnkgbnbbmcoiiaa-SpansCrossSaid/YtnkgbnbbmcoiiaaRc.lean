import Derived.Test.YtnkgbnbbmcoiiaaRows
import Derived.WalkKit
import Derived.ProofKit
import Derived.OpenShut
import Derived.ChangeOld
import Derived.Below
import Derived.Test.YtnkgbnbbmcoiiaaS0
import Derived.Deep.Slices
namespace Go.Proofs.Ytnkgbnbbmcoiiaa
open Go.ChangeShapes Go.WideShapes Go.ChangeAt Go.RowKit Go.Deep Go.Proofs.YtnkgbnbbmcoiiaaW.PrintWords
set_option linter.unusedVariables false
set_option maxRecDepth 100000
theorem Try.ownNone : ownKnob Try.prog.godebug = none := by kernel_rfl
theorem Try.laidOut' : laidOutB Try.prog = true := by kernel_rfl
section
variable {H : Type} {enc : TypeId × Value → H} {w : World} {base : Nat} {spare : Nat → Bool} {held : Bool}
def I64' (n : Int) : Prop := -9223372036854775808 ≤ n ∧ n ≤ 9223372036854775807
theorem i64_of_wf {n : Int} (h : (Lit.int .i64 n).wf = true) : I64' n := by
  have h : -9223372036854775808 ≤ n ∧ n ≤ 9223372036854775807 := by
    simp only [Lit.wf, Bool.and_eq_true, decide_eq_true_eq] at h
    exact h
  exact h
theorem span_cells {cs : List Value} {d : DataW H} {p : List MemPlace} {n : Nat} (hl : cs.length = 3) (h : DataW.trod enc Try.prog w base spare held n 26 cs = some (d, p)) :
    ∃ x : S.S26, cs = [.int .i64 x.f0, .int .i64 x.f1, .int .i64 x.f2] ∧ I64' x.f0 ∧ I64' x.f1 ∧ I64' x.f2 := by
  have c3 : Try.prog.cellsOf 3 = 1 := by kernel_rfl
  obtain ⟨xs, n, _, _, _, hlen, hg⟩ := DataW.trod_struct Try.underlying26 h
  have key : ∀ (i : Nat) (f : Field), f.offset = i → f.type = 3 → i < 3 → DataW.trod enc Try.prog w base spare held n f.type ((cs.drop f.offset).take (Try.prog.cellsOf f.type)) = xs[i]? → ∃ m, cs[i]? = some (.int .i64 m) ∧ I64' m := by
    intro i f ho ht hi hq
    rw [ht, ho, c3] at hq
    have hxl : xs[i]? = some (xs[i]'(by simp at hlen; omega)) := List.getElem?_eq_getElem _
    rw [hxl] at hq
    obtain ⟨m, hc, _, hw⟩ := DataW.trod_int Try.underlying3 hq
    refine ⟨m, ?_, i64_of_wf hw⟩
    have := congrArg (·[0]?) hc
    simpa [List.getElem?_take, List.getElem?_drop] using this
  obtain ⟨a, h0, w0⟩ := key 0 _ rfl rfl (by decide) (hg 0 _ rfl)
  obtain ⟨b, h1, w1⟩ := key 1 _ rfl rfl (by decide) (hg 1 _ rfl)
  obtain ⟨c, h2, w2⟩ := key 2 _ rfl rfl (by decide) (hg 2 _ rfl)
  refine ⟨⟨a, b, c⟩, ?_, w0, w1, w2⟩
  match cs, hl with
  | [x0, x1, x2], _ =>
    simp at h0 h1 h2
    rw [h0, h1, h2]
theorem open_spans {spare : Nat → Bool} {r : Reach} {b0 : Nat} {v : Value} {d : DataW H} {p : List MemPlace} (hv : Value.okWide Try.prog w r b0 22 v) (h : DataW.Trod enc Try.prog w base spare held 22 v d p) :
    ∃ (A : Option Addr) (c : Nat) (l : List S.S26), v = .slice A l.length c ∧ Kd.C S.k26 w A l.length l ∧ l.length ≤ c ∧ l.length ≤ 9223372036854775807 ∧ ∀ x ∈ l, I64' x.f0 ∧ I64' x.f1 ∧ I64' x.f2 := by
  obtain ⟨A, len, cap, rfl⟩ := okWide_slice Try.underlying22 hv
  have cE : Try.prog.cellsOf 26 = 3 := by kernel_rfl
  obtain ⟨fuel, hf⟩ := h
  rcases open_slice Try.underlying22 hf with ⟨hcs, _⟩ | ⟨a, len', cap', m, n, D, Pl, hcs, _, hlc, hcm, hm, _, hall⟩
  · simp [Value.cells] at hcs
    obtain ⟨rfl, rfl, rfl⟩ := hcs
    exact ⟨none, 0, [], rfl, ⟨rfl, by simp, fun h => absurd h (by simp)⟩, Nat.le_refl _, by simp, by simp⟩
  · simp [Value.cells] at hcs
    obtain ⟨rfl, rfl, rfl⟩ := hcs
    have hmax : cap ≤ 9223372036854775807 := by unfold maxLen at hcm; exact Nat.le_trans hcm (by decide)
    have hlm : len ≤ m := by rw [hm]; split <;> omega
    have key : ∀ i, i < len → ∃ y : S.S26, (∀ j u, ([.int .i64 y.f0, .int .i64 y.f1, .int .i64 y.f2] : List Value)[j]? = some u → w.cell? (a.add (i * 3 + j)) = some u) ∧ I64' y.f0 ∧ I64' y.f1 ∧ I64' y.f2 := by
      intro i hi
      obtain ⟨cs', hc, ht⟩ := hall i (by omega)
      rw [cE] at hc
      obtain ⟨_, hl5, hat⟩ := World.cells?_some hc
      obtain ⟨y, hy, hw⟩ := span_cells hl5 ht
      refine ⟨y, fun j u hu => ?_, hw⟩
      rw [← hy] at hu
      have hj : j < 3 := by rw [← hl5]; exact (List.getElem?_eq_some_iff.1 hu).1
      rw [← Go.Deep.add_add, hat j hj, hu]
    have hch : ∃ f : Nat → S.S26, ∀ i, i < len → (∀ j u, ([.int .i64 (f i).f0, .int .i64 (f i).f1, .int .i64 (f i).f2] : List Value)[j]? = some u → w.cell? (a.add (i * 3 + j)) = some u) ∧ I64' (f i).f0 ∧ I64' (f i).f1 ∧ I64' (f i).f2 :=
      ⟨fun i => if h : i < len then Classical.choose (key i h) else S.z26, fun i hi => by simp only [dif_pos hi]; exact Classical.choose_spec (key i hi)⟩
    obtain ⟨f, hf⟩ := hch
    refine ⟨some a, cap, (List.range len).map f, by simp, ⟨by simp, by simp; omega, fun _ => ⟨a, rfl, fun j p hj => ?_⟩⟩, by simpa using hlc, by simp; omega, fun x hx => ?_⟩
    · have hjl : j < len := by
        have := (List.getElem?_eq_some_iff.1 hj).1
        simpa using this
      simp [hjl] at hj
      subst hj
      exact ⟨_, rfl, S.k26_mk w (f j), (hf j hjl).1⟩
    · simp only [List.mem_map, List.mem_range] at hx
      obtain ⟨i, hi, rfl⟩ := hx
      exact (hf i hi).2
end
end Go.Proofs.Ytnkgbnbbmcoiiaa
