import Derived.Test.YtfdkhahpjbikiaaDoorRows
import Derived.Test.YtfdkhahpjbikiaaDoorGl
import Derived.WalkKit
import Derived.ProofKit
import Derived.OpenShut
import Derived.ChangeOld
import Derived.Below
import Derived.LaidMore
import Derived.Lib.LaidTab
import Derived.Stop.Joined
import Derived.Stop.LaidErr
namespace Go.Proofs.YtfdkhahpjbikiaaDoor
open Go.ChangeShapes Go.WideShapes Go.ChangeAt Go.RowKit
set_option linter.unusedVariables false
theorem Tryd.ownNone : ownKnob Tryd.prog.godebug = none := by kernel_rfl
theorem Tryd.laidOut' : laidOutB Tryd.prog = true := by kernel_rfl
/-- The row's list. -/
def laid3 : List (String × DataW Unit) := [("math/bits.deBruijn32tab", Rows.laid_math_bits_deBruijn32tab), ("math/bits.deBruijn64tab", Rows.laid_math_bits_deBruijn64tab), ("internal/strconv.uint64pow10", Rows.laid_internal_strconv_uint64pow10)]
theorem gPow : Tryd.prog.globalNamed "internal/strconv.uint64pow10" = some 0 := by kernel_rfl
/-- What the row's condition gives the walk. -/
theorem GL_of_laid {W : World} (h : laidMetH Tryd.prog laid3 W) : GL W := by
  rw [MakeChecks.laidMetH_plain _ _ _ (by kernel_rfl)] at h
  have h2 : laidMet Tryd.prog [("internal/strconv.uint64pow10", Rows.laid_internal_strconv_uint64pow10)] W := laidMet.tail (laidMet.tail h)
  have e : (Rows.laid_internal_strconv_uint64pow10 : DataW Unit) = Lib.tabData .u64 Lib.pow10Tab := by kernel_rfl
  rw [e] at h2
  exact Lib.tabIs_of_head gPow (t := 73) (e := 66) (n := 20) (by kernel_rfl) (by kernel_rfl) (by kernel_rfl) (by kernel_rfl) (by kernel_rfl) h2
/-- The door's own heap meets the condition. -/
theorem door_met (os : Os) (args : Array Value) : laidMetH Tryd.prog laid3 ((World.doorLaid Tryd.prog 65 os).forCall (fun _ _ => 0) ⟨#[], args, []⟩).memory :=
  laidMetH_of_parts3 (fuel := 8) (laidMet_of_run' 8 (by kernel_rfl) (by kernel_rfl)) (by kernel_rfl) (by kernel_rfl)
section
variable {H : Type} {enc : TypeId × Value → H} {w : World} {base : Nat} {spare : Nat → Bool} {held : Bool}
def I64' (n : Int) : Prop := -9223372036854775808 ≤ n ∧ n ≤ 9223372036854775807
theorem i64_of_wf {n : Int} (h : (Lit.int .i64 n).wf = true) : I64' n := by
  have h : -9223372036854775808 ≤ n ∧ n ≤ 9223372036854775807 := by
    simp only [Lit.wf, Bool.and_eq_true, decide_eq_true_eq] at h
    exact h
  exact h
/-- An instruction that came in: five numbers. -/
theorem open_inst {r : Reach} {b0 : Nat} {v : Value} {d : DataW H} {p : List MemPlace} (hv : Value.okWide Tryd.prog w r b0 23 v) (h : DataW.Trod enc Tryd.prog w base spare held 23 v d p) :
    ∃ a b c e f : Int, v = .agg #[.int .i64 a, .int .i64 b, .int .i64 c, .int .i64 e, .int .i64 f] ∧ I64' a ∧ I64' b ∧ I64' c ∧ I64' e ∧ I64' f := by
  obtain ⟨cs, rfl, hsz⟩ := okWide_struct Tryd.underlying23 hv
  have c23 : Tryd.prog.cellsOf 23 = 5 := by kernel_rfl
  have c3 : Tryd.prog.cellsOf 3 = 1 := by kernel_rfl
  rw [c23] at hsz
  obtain ⟨fuel, hf⟩ := h
  obtain ⟨xs, n, _, _, _, hlen, hg⟩ := DataW.trod_struct Tryd.underlying23 hf
  have key : ∀ (i : Nat) (f : Field), f.offset = i → f.type = 3 → i < 5 → DataW.trod enc Tryd.prog w base spare held n f.type (((Value.agg cs).cells.toList.drop f.offset).take (Tryd.prog.cellsOf f.type)) = xs[i]? → ∃ m, cs[i]? = some (.int .i64 m) ∧ I64' m := by
    intro i f ho ht hi hq
    rw [ht, ho, c3] at hq
    have hxl : xs[i]? = some (xs[i]'(by simp at hlen; omega)) := List.getElem?_eq_getElem _
    rw [hxl] at hq
    obtain ⟨m, hc, _, hw⟩ := DataW.trod_int Tryd.underlying3 hq
    refine ⟨m, ?_, i64_of_wf hw⟩
    have := congrArg (·[0]?) hc
    simpa [List.getElem?_take, List.getElem?_drop, Value.cells] using this
  obtain ⟨a, h0, w0⟩ := key 0 _ rfl rfl (by decide) (hg 0 _ rfl)
  obtain ⟨b, h1, w1⟩ := key 1 _ rfl rfl (by decide) (hg 1 _ rfl)
  obtain ⟨c, h2, w2⟩ := key 2 _ rfl rfl (by decide) (hg 2 _ rfl)
  obtain ⟨e, h3, w3⟩ := key 3 _ rfl rfl (by decide) (hg 3 _ rfl)
  obtain ⟨f, h4, w4⟩ := key 4 _ rfl rfl (by decide) (hg 4 _ rfl)
  refine ⟨a, b, c, e, f, ?_, w0, w1, w2, w3, w4⟩
  obtain ⟨l⟩ := cs
  match l, hsz with
  | [x0, x1, x2, x3, x4], _ =>
    simp at h0 h1 h2 h3 h4
    rw [h0, h1, h2, h3, h4]
end
end Go.Proofs.YtfdkhahpjbikiaaDoor
