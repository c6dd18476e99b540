import Derived.Test.YtmfcmjcgajjiiaaDoorProg
import Derived.Lib.LaidTab
import Derived.Lib.ItoaNum
import Derived.Lib.SmallJoins
import Derived.KernelRfl
namespace Go.Proofs.YtmfcmjcgajjiiaaDoor
open Go.RowKit
/-- What is asked of the package-level variables: the table of the powers of ten. -/
def GL (w : World) : Prop := Lib.TabIs Tryd.prog w "internal/strconv.uint64pow10" .u64 Lib.pow10Tab
theorem GL.below {w w' : World} (h : GL w) (hb : Below w.heap.size w w') : GL w' :=
  Joins.tab_stays (g := 0) (by kernel_rfl) h hb (Nat.le_refl _)
end Go.Proofs.YtmfcmjcgajjiiaaDoor
