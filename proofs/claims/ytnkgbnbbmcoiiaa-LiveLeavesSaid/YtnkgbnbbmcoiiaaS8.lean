-- a text of the seat, by a program
import Derived.Test.YtnkgbnbbmcoiiaaS0
import Derived.Test.YtnkgbnbbmcoiiaaOpw
import Derived.Test.YtnkgbnbbmcoiiaaOrat
namespace Go.Proofs.Ytnkgbnbbmcoiiaa.S
open Go.RowKit Go.Proofs.YtnkgbnbbmcoiiaaW.PrintWords Go.Proofs.YtnkgbnbbmcoiiaaW.PrintLast Go.Proofs.YtnkgbnbbmcoiiaaW.PrintMore
attribute [local go_sem] max2_int min2_int max_two min_two max_three min_three max_four min_four   -- for this text's walks alone
set_option linter.unusedVariables false
set_option linter.unusedSimpArgs false

/-! ### spans_Most: function 15 -/
-- swageref25_At: function 14: a contract by hand, in Orat
end Go.Proofs.Ytnkgbnbbmcoiiaa.S
