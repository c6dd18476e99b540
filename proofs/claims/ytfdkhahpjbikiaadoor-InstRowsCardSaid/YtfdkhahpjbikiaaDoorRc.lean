import Derived.Test.YtfdkhahpjbikiaaDoorRows
import Derived.Test.YtfdkhahpjbikiaaDoorGl
import Derived.WalkKit
import Derived.ProofKit
import Derived.OpenShut
import Derived.ChangeOld
import Derived.Below
import Derived.LaidMore
import Derived.Lib.LaidTab
import Derived.Stop.Joined
import Derived.Stop.LaidErr
import Derived.Test.YtfdkhahpjbikiaaDoorLp
import Derived.Test.YtfdkhahpjbikiaaDoorS0
import Derived.Deep.Slices
namespace Go.Proofs.YtfdkhahpjbikiaaDoor
open Go.ChangeShapes Go.WideShapes Go.ChangeAt Go.RowKit
set_option linter.unusedVariables false
theorem Tryd.ownNone : ownKnob Tryd.prog.godebug = none := by kernel_rfl
theorem Tryd.laidOut' : laidOutB Tryd.prog = true := by kernel_rfl
/-- The row's list. -/
def laid3 : List (String × DataW Unit) := [("math/bits.deBruijn32tab", Rows.laid_math_bits_deBruijn32tab), ("math/bits.deBruijn64tab", Rows.laid_math_bits_deBruijn64tab), ("internal/strconv.uint64pow10", Rows.laid_internal_strconv_uint64pow10)]
theorem gPow : Tryd.prog.globalNamed "internal/strconv.uint64pow10" = some 0 := by kernel_rfl
/-- What the row's condition gives the walk. -/
theorem GL_of_laid {W : World} (h : laidMetH Tryd.prog laid3 W) : GL W := by
  rw [MakeChecks.laidMetH_plain _ _ _ (by kernel_rfl)] at h
  have h2 : laidMet Tryd.prog [("internal/strconv.uint64pow10", Rows.laid_internal_strconv_uint64pow10)] W := laidMet.tail (laidMet.tail h)
  have e : (Rows.laid_internal_strconv_uint64pow10 : DataW Unit) = Lib.tabData .u64 Lib.pow10Tab := by kernel_rfl
  rw [e] at h2
  exact Lib.tabIs_of_head gPow (t := 73) (e := 66) (n := 20) (by kernel_rfl) (by kernel_rfl) (by kernel_rfl) (by kernel_rfl) (by kernel_rfl) h2
/-- The door's own heap meets the condition. -/
theorem door_met (os : Os) (args : Array Value) : laidMetH Tryd.prog laid3 ((World.doorLaid Tryd.prog 65 os).forCall (fun _ _ => 0) ⟨#[], args, []⟩).memory :=
  laidMetH_of_parts3 (fuel := 8) (laidMet_of_run' 8 (by kernel_rfl) (by kernel_rfl)) (by kernel_rfl) (by kernel_rfl)
section
variable {H : Type} {enc : TypeId × Value → H} {w : World} {base : Nat} {spare : Nat → Bool} {held : Bool}
def I64' (n : Int) : Prop := -9223372036854775808 ≤ n ∧ n ≤ 9223372036854775807
theorem i64_of_wf {n : Int} (h : (Lit.int .i64 n).wf = true) : I64' n := by
  have h : -9223372036854775808 ≤ n ∧ n ≤ 9223372036854775807 := by
    simp only [Lit.wf, Bool.and_eq_true, decide_eq_true_eq] at h
    exact h
  exact h
/-- An instruction that came in: five numbers. -/
theorem open_inst {r : Reach} {b0 : Nat} {v : Value} {d : DataW H} {p : List MemPlace} (hv : Value.okWide Tryd.prog w r b0 23 v) (h : DataW.Trod enc Tryd.prog w base spare held 23 v d p) :
    ∃ a b c e f : Int, v = .agg #[.int .i64 a, .int .i64 b, .int .i64 c, .int .i64 e, .int .i64 f] ∧ I64' a ∧ I64' b ∧ I64' c ∧ I64' e ∧ I64' f := by
  obtain ⟨cs, rfl, hsz⟩ := okWide_struct Tryd.underlying23 hv
  have c23 : Tryd.prog.cellsOf 23 = 5 := by kernel_rfl
  have c3 : Tryd.prog.cellsOf 3 = 1 := by kernel_rfl
  rw [c23] at hsz
  obtain ⟨fuel, hf⟩ := h
  obtain ⟨xs, n, _, _, _, hlen, hg⟩ := DataW.trod_struct Tryd.underlying23 hf
  have key : ∀ (i : Nat) (f : Field), f.offset = i → f.type = 3 → i < 5 → DataW.trod enc Tryd.prog w base spare held n f.type (((Value.agg cs).cells.toList.drop f.offset).take (Tryd.prog.cellsOf f.type)) = xs[i]? → ∃ m, cs[i]? = some (.int .i64 m) ∧ I64' m := by
    intro i f ho ht hi hq
    rw [ht, ho, c3] at hq
    have hxl : xs[i]? = some (xs[i]'(by simp at hlen; omega)) := List.getElem?_eq_getElem _
    rw [hxl] at hq
    obtain ⟨m, hc, _, hw⟩ := DataW.trod_int Tryd.underlying3 hq
    refine ⟨m, ?_, i64_of_wf hw⟩
    have := congrArg (·[0]?) hc
    simpa [List.getElem?_take, List.getElem?_drop, Value.cells] using this
  obtain ⟨a, h0, w0⟩ := key 0 _ rfl rfl (by decide) (hg 0 _ rfl)
  obtain ⟨b, h1, w1⟩ := key 1 _ rfl rfl (by decide) (hg 1 _ rfl)
  obtain ⟨c, h2, w2⟩ := key 2 _ rfl rfl (by decide) (hg 2 _ rfl)
  obtain ⟨e, h3, w3⟩ := key 3 _ rfl rfl (by decide) (hg 3 _ rfl)
  obtain ⟨f, h4, w4⟩ := key 4 _ rfl rfl (by decide) (hg 4 _ rfl)
  refine ⟨a, b, c, e, f, ?_, w0, w1, w2, w3, w4⟩
  obtain ⟨l⟩ := cs
  match l, hsz with
  | [x0, x1, x2, x3, x4], _ =>
    simp at h0 h1 h2 h3 h4
    rw [h0, h1, h2, h3, h4]
end
end Go.Proofs.YtfdkhahpjbikiaaDoor
namespace Go.Proofs.YtfdkhahpjbikiaaDoor
open Go.ChangeShapes Go.WideShapes Go.ChangeAt Go.RowKit Go.Proofs.YtfdkhahpjbikiaaDoorW.PrintWords
set_option linter.unusedVariables false
section
variable {H : Type} {enc : TypeId × Value → H} {w : World} {base : Nat} {held : Bool}
/-- Bytes that came in. -/
theorem open_bytes {r : Reach} {b0 : Nat} {v : Value} {d : DataW H} {p : List MemPlace} (hv : Value.okWide Tryd.prog w r b0 24 v) (h : DataW.Trod enc Tryd.prog w base (fun _ => true) held 24 v d p) :
    ∃ (A : Option Addr) (c : Nat) (l : List Int), v = .slice A l.length c ∧ Kd.C (Kd.int .u8) w A l.length l ∧ l.length ≤ c ∧ l.length ≤ 9223372036854775807 ∧ ∀ x ∈ l, S.Byte x := by
  obtain ⟨A, len, cap, rfl⟩ := okWide_slice Tryd.underlying24 hv
  have key : ∃ zs : List Int, (A = none ∧ len = 0 ∧ cap = 0 ∧ zs = []) ∨ ∃ x, A = some x ∧ len ≤ cap ∧ cap ≤ maxLen ∧ zs.length = cap ∧ (∀ i, i < zs.length → w.cell? (x.add i) = some (.int .u8 (zs.getD i 0))) ∧ ∀ n ∈ zs, (Lit.int .u8 n).wf = true := by
    obtain ⟨fuel, hf⟩ := h
    rcases open_ints Tryd.underlying24 Tryd.underlying5 (by kernel_rfl) hf with ⟨hcs, _⟩ | ⟨x, l, c, zs, hcs, _, hl, hm, hz, _, hcell, hwz⟩
    · simp [Value.cells] at hcs
      obtain ⟨rfl, rfl, rfl⟩ := hcs
      exact ⟨[], .inl ⟨rfl, rfl, rfl, rfl⟩⟩
    · simp [Value.cells] at hcs
      obtain ⟨rfl, rfl, rfl⟩ := hcs
      exact ⟨zs, .inr ⟨_, rfl, hl, hm, by simpa using hz, hcell, hwz⟩⟩
  obtain ⟨zs, hz⟩ := key
  obtain ⟨l, rfl, hr, hm, hw, hc⟩ := ReadsInt.ofRowC hz
  refine ⟨A, cap, l, rfl, Kd.C_of_reads (d := (0 : Int)) (h1 := fun _ => rfl) hr, hc, Nat.le_trans hm (by decide), fun x hx => ?_⟩
  have := hw x hx
  have h2 : 0 ≤ x ∧ x ≤ 255 := by
    simp only [Lit.wf, Bool.and_eq_true, decide_eq_true_eq] at this
    exact this
  exact h2
end
end Go.Proofs.YtfdkhahpjbikiaaDoor
namespace Go.Proofs.YtfdkhahpjbikiaaDoor
open Go.ChangeShapes Go.WideShapes Go.ChangeAt Go.RowKit Go.Deep Go.Proofs.YtfdkhahpjbikiaaDoorW.PrintWords
set_option linter.unusedVariables false
section
variable {H : Type} {enc : TypeId × Value → H} {w : World} {base : Nat} {held : Bool}
/-- Five cells that read as an instruction. -/
theorem inst_cells {spare : Nat → Bool} {fuel : Nat} {cs : List Value} {x : DataW H × List MemPlace} (hl : cs.length = 5) (h : DataW.trod enc Tryd.prog w base spare held fuel 23 cs = some x) :
    ∃ y : S.S23, cs = [.int .i64 y.f0, .int .i64 y.f1, .int .i64 y.f2, .int .i64 y.f3, .int .i64 y.f4] ∧ I64' y.f0 ∧ I64' y.f1 ∧ I64' y.f2 ∧ I64' y.f3 ∧ I64' y.f4 := by
  have c3 : Tryd.prog.cellsOf 3 = 1 := by kernel_rfl
  obtain ⟨xs, n, _, _, _, hlen, hg⟩ := DataW.trod_struct Tryd.underlying23 h
  have key : ∀ (i : Nat) (f : Field), f.offset = i → f.type = 3 → i < 5 → DataW.trod enc Tryd.prog w base spare held n f.type ((cs.drop f.offset).take (Tryd.prog.cellsOf f.type)) = xs[i]? → ∃ m, cs[i]? = some (.int .i64 m) ∧ I64' m := by
    intro i f ho ht hi hq
    rw [ht, ho, c3] at hq
    have hxl : xs[i]? = some (xs[i]'(by simp at hlen; omega)) := List.getElem?_eq_getElem _
    rw [hxl] at hq
    obtain ⟨m, hc, _, hw⟩ := DataW.trod_int Tryd.underlying3 hq
    refine ⟨m, ?_, i64_of_wf hw⟩
    have := congrArg (·[0]?) hc
    simpa [List.getElem?_take, List.getElem?_drop] using this
  obtain ⟨a, h0, w0⟩ := key 0 _ rfl rfl (by decide) (hg 0 _ rfl)
  obtain ⟨b, h1, w1⟩ := key 1 _ rfl rfl (by decide) (hg 1 _ rfl)
  obtain ⟨c, h2, w2⟩ := key 2 _ rfl rfl (by decide) (hg 2 _ rfl)
  obtain ⟨e, h3, w3⟩ := key 3 _ rfl rfl (by decide) (hg 3 _ rfl)
  obtain ⟨f, h4, w4⟩ := key 4 _ rfl rfl (by decide) (hg 4 _ rfl)
  refine ⟨⟨a, b, c, e, f⟩, ?_, w0, w1, w2, w3, w4⟩
  match cs, hl with
  | [x0, x1, x2, x3, x4], _ =>
    simp at h0 h1 h2 h3 h4
    rw [h0, h1, h2, h3, h4]
/-- Instructions that came in. -/
theorem open_insts {spare : Nat → Bool} {r : Reach} {b0 : Nat} {v : Value} {d : DataW H} {p : List MemPlace} (hv : Value.okWide Tryd.prog w r b0 39 v) (h : DataW.Trod enc Tryd.prog w base spare held 39 v d p) :
    ∃ (A : Option Addr) (c : Nat) (l : List S.S23), v = .slice A l.length c ∧ Kd.C S.k23 w A l.length l ∧ l.length ≤ c ∧ l.length ≤ 9223372036854775807 ∧ ∀ x ∈ l, I64' x.f0 ∧ I64' x.f1 ∧ I64' x.f2 ∧ I64' x.f3 ∧ I64' x.f4 := by
  obtain ⟨A, len, cap, rfl⟩ := okWide_slice Tryd.underlying39 hv
  have c23 : Tryd.prog.cellsOf 23 = 5 := by kernel_rfl
  obtain ⟨fuel, hf⟩ := h
  rcases open_slice Tryd.underlying39 hf with ⟨hcs, _⟩ | ⟨a, len', cap', m, n, D, Pl, hcs, _, hlc, hcm, hm, _, hall⟩
  · simp [Value.cells] at hcs
    obtain ⟨rfl, rfl, rfl⟩ := hcs
    exact ⟨none, 0, [], rfl, ⟨rfl, by simp, fun h => absurd h (by simp)⟩, Nat.le_refl _, by simp, by simp⟩
  · simp [Value.cells] at hcs
    obtain ⟨rfl, rfl, rfl⟩ := hcs
    have hmax : cap ≤ 9223372036854775807 := by unfold maxLen at hcm; exact Nat.le_trans hcm (by decide)
    have hlm : len ≤ m := by rw [hm]; split <;> omega
    have key : ∀ i, i < len → ∃ y : S.S23, (∀ j u, ([.int .i64 y.f0, .int .i64 y.f1, .int .i64 y.f2, .int .i64 y.f3, .int .i64 y.f4] : List Value)[j]? = some u → w.cell? (a.add (i * 5 + j)) = some u) ∧ I64' y.f0 ∧ I64' y.f1 ∧ I64' y.f2 ∧ I64' y.f3 ∧ I64' y.f4 := by
      intro i hi
      obtain ⟨cs', hc, ht⟩ := hall i (by omega)
      rw [c23] at hc
      obtain ⟨_, hl5, hat⟩ := World.cells?_some hc
      obtain ⟨y, hy, hw⟩ := inst_cells hl5 ht
      refine ⟨y, fun j u hu => ?_, hw⟩
      rw [← hy] at hu
      have hj : j < 5 := by rw [← hl5]; exact (List.getElem?_eq_some_iff.1 hu).1
      rw [← Go.Deep.add_add, hat j hj, hu]
    have hch : ∃ f : Nat → S.S23, ∀ i, i < len → (∀ j u, ([.int .i64 (f i).f0, .int .i64 (f i).f1, .int .i64 (f i).f2, .int .i64 (f i).f3, .int .i64 (f i).f4] : List Value)[j]? = some u → w.cell? (a.add (i * 5 + j)) = some u) ∧ I64' (f i).f0 ∧ I64' (f i).f1 ∧ I64' (f i).f2 ∧ I64' (f i).f3 ∧ I64' (f i).f4 :=
      ⟨fun i => if h : i < len then Classical.choose (key i h) else S.z23, fun i hi => by simp only [dif_pos hi]; exact Classical.choose_spec (key i hi)⟩
    obtain ⟨f, hf⟩ := hch
    refine ⟨some a, cap, (List.range len).map f, by simp, ⟨by simp, by simp; omega, fun _ => ⟨a, rfl, fun j p hj => ?_⟩⟩, by simpa using hlc, by simp; omega, fun x hx => ?_⟩
    · have hjl : j < len := by
        have := (List.getElem?_eq_some_iff.1 hj).1
        simpa using this
      simp [hjl] at hj
      subst hj
      exact ⟨_, rfl, S.k23_mk w (f j), (hf j hjl).1⟩
    · simp only [List.mem_map, List.mem_range] at hx
      obtain ⟨i, hi, rfl⟩ := hx
      exact (hf i hi).2
end
end Go.Proofs.YtfdkhahpjbikiaaDoor
