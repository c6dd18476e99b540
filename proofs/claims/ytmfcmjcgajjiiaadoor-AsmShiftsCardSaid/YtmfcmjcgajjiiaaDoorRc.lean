import Derived.Test.YtmfcmjcgajjiiaaDoorRows
import Derived.Test.YtmfcmjcgajjiiaaDoorGl
import Derived.Test.YtmfcmjcgajjiiaaDoorS0
import Derived.Test.YtmfcmjcgajjiiaaDoorOpn
import Derived.Test.YtmfcmjcgajjiiaaDoorOretext
import Derived.WalkKit
import Derived.ProofKit
import Derived.OpenShut
import Derived.ChangeOld
import Derived.Below
import Derived.LaidMore
import Derived.Lib.LaidTab
import Derived.Stop.Joined
import Derived.Stop.LaidErr
import Derived.Deep.Slices
namespace Go.Proofs.YtmfcmjcgajjiiaaDoor
open Go.ChangeShapes Go.WideShapes Go.ChangeAt Go.RowKit Go.Proofs.YtmfcmjcgajjiiaaDoorW.PrintWords
set_option linter.unusedVariables false
theorem Tryd.ownNone : ownKnob Tryd.prog.godebug = none := by kernel_rfl
theorem Tryd.laidOut' : laidOutB Tryd.prog = true := by kernel_rfl
/-- The row's list. -/
def laid3 : List (String × DataW Unit) := [("math/bits.deBruijn32tab", Rows.laid_math_bits_deBruijn32tab), ("math/bits.deBruijn64tab", Rows.laid_math_bits_deBruijn64tab), ("internal/strconv.uint64pow10", Rows.laid_internal_strconv_uint64pow10)]
theorem gPow : Tryd.prog.globalNamed "internal/strconv.uint64pow10" = some 0 := by kernel_rfl
/-- What the row's condition gives the walk. -/
theorem GL_of_laid {W : World} (h : laidMetH Tryd.prog laid3 W) : GL W := by
  rw [MakeChecks.laidMetH_plain _ _ _ (by kernel_rfl)] at h
  have h2 : laidMet Tryd.prog [("internal/strconv.uint64pow10", Rows.laid_internal_strconv_uint64pow10)] W := laidMet.tail (laidMet.tail h)
  have e : (Rows.laid_internal_strconv_uint64pow10 : DataW Unit) = Lib.tabData .u64 Lib.pow10Tab := by kernel_rfl
  rw [e] at h2
  exact Lib.tabIs_of_head gPow (t := 123) (e := 110) (n := 20) (by kernel_rfl) (by kernel_rfl) (by kernel_rfl) (by kernel_rfl) (by kernel_rfl) h2
/-- The door's own heap meets the condition. -/
theorem door_met (os : Os) (args : Array Value) : laidMetH Tryd.prog laid3 ((World.doorLaid Tryd.prog 65 os).forCall (fun _ _ => 0) ⟨#[], args, []⟩).memory :=
  laidMetH_of_parts3 (fuel := 8) (laidMet_of_run' 8 (by kernel_rfl) (by kernel_rfl)) (by kernel_rfl) (by kernel_rfl)
theorem cells3 : Tryd.prog.cellsOf 3 = 1 := by kernel_rfl
theorem opI : Opens Tryd.prog (Kd.int .i64) 3 S.I64 := (Opens.int Tryd.underlying3).imp (fun _ h => i64_wf h)
set_option maxRecDepth 100000 in
/-- An instruction. -/
theorem op32 : Opens Tryd.prog S.k32 32 (fun x => S.I64 x.f0 ∧ S.I64 x.f1 ∧ S.I64 x.f2 ∧ S.I64 x.f3 ∧ S.I64 x.f4) :=
  Opens.struct Tryd.underlying32 (by kernel_rfl)
    (FOpens.cons opI cells3 (FOpens.cons opI cells3 (FOpens.cons opI cells3 (FOpens.cons opI cells3 (FOpens.last opI cells3) (by decide)) (by decide)) (by decide)) (by decide))
    (fun p => ⟨p.1, p.2.1, p.2.2.1, p.2.2.2.1, p.2.2.2.2⟩) (fun _ => rfl) (fun _ h => h)
set_option maxRecDepth 100000 in
/-- A line. -/
theorem op38 : Opens Tryd.prog S.k38 38 S.LI :=
  Opens.struct Tryd.underlying38 (by kernel_rfl)
    (FOpens.cons opI cells3 (FOpens.cons op32 (by kernel_rfl) (FOpens.last opI cells3) (by decide)) (by decide))
    (fun p => ⟨p.1, p.2.1, p.2.2⟩) (fun _ => rfl) (fun _ h => ⟨h.1, h.2.1.1, h.2.1.2.1, h.2.1.2.2.1, h.2.1.2.2.2.1, h.2.1.2.2.2.2, h.2.2⟩)
section
variable {H : Type} {enc : TypeId × Value → H} {w : World} {base : Nat} {held : Bool}
set_option maxRecDepth 100000 in
/-- Lines that came in. -/
theorem open_lines {spare : Nat → Bool} {r : Reach} {b0 : Nat} {v : Value} {d : DataW H} {p : List MemPlace} (hv : Value.okWide Tryd.prog w r b0 22 v) (h : DataW.Trod enc Tryd.prog w base spare held 22 v d p) :
    ∃ (A : Option Addr) (c : Nat) (l : List S.S38), v = .slice A l.length c ∧ Kd.C S.k38 w A l.length l ∧ l.length ≤ c ∧ l.length ≤ 9223372036854775807 ∧ ∀ x ∈ l, S.LI x :=
  Opens.arg (Opens.slice Tryd.underlying22 (by kernel_rfl) op38) Tryd.underlying22 hv h
end
end Go.Proofs.YtmfcmjcgajjiiaaDoor
