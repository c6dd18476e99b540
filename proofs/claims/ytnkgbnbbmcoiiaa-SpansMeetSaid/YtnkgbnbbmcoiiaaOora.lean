import Derived.Test.YtnkgbnbbmcoiiaaOright
namespace Go.Proofs.Ytnkgbnbbmcoiiaa.S
open Go.RowKit Go.Proofs.YtnkgbnbbmcoiiaaW.PrintWords Go.Proofs.YtnkgbnbbmcoiiaaW.PrintLast Go.Proofs.YtnkgbnbbmcoiiaaW.PrintMore
set_option linter.unusedVariables false
def code_Right.f (p : Int) (bs : List S43) (fn : Int) : Option Bool := some (rightF p bs fn)
theorem code_Right.calls (p : Int) (A : Option Addr) (c : Nat) (bs : List S43) (fn : Int) (r : Bool) (w : World) (hC : Kd.C k43 w A bs.length bs) (hc : bs.length ≤ c) (h : code_Right.f p bs fn = some r) :
    Calls Try.prog 18 #[.agg #[.int .i64 p, .slice A bs.length c], .int .i64 fn] w fun e w' => e = .returned (.bool r) ∧ Below w.heap.size w w' := by
  injection h with h
  subst h
  exact right_any p A c bs fn w hC
end Go.Proofs.Ytnkgbnbbmcoiiaa.S
