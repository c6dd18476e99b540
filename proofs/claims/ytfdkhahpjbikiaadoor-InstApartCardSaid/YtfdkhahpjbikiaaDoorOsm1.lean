import Derived.Test.YtfdkhahpjbikiaaDoorRel
import Derived.Test.YtfdkhahpjbikiaaDoorOdec
import Derived.Test.YtfdkhahpjbikiaaDoorOtext
import Derived.Test.YtfdkhahpjbikiaaDoorS5
import Derived.Test.YtfdkhahpjbikiaaDoorS6
import Derived.Test.YtfdkhahpjbikiaaDoorS7
namespace Go.Proofs.YtfdkhahpjbikiaaDoor.S
open Go.RowKit Go.Proofs.YtfdkhahpjbikiaaDoorW.PrintWords Go.Proofs.YtfdkhahpjbikiaaDoorW.PrintLast Go.Proofs.YtfdkhahpjbikiaaDoorW.PrintMore Go.RelRegion
set_option linter.unusedVariables false
theorem sm_enc : inst_Encode.f 30 1 3 0 0 (-1) = some ([1, 48, 0, 0, 255, 255, 255, 255], 0) := by decide +kernel
theorem sm_dec : inst_Decode.f 30 [1, 48, 0, 0, 255, 255, 255, 255] = some (1, 3, 0, 0, -1, 0) := by decide +kernel
theorem sm_dec2 : inst_Decode.f 30 [10, 0, 0, 1, 0, 0, 0, 0] = some (0, 0, 0, 0, 0, 2) := by decide +kernel
theorem sm_sets : inst_Sets.f 30 1 3 0 0 (-1) = some (3, true) := by decide +kernel
theorem sm_text : inst_Text.f 30 1 3 0 0 (-1) = some ⟨#[108, 105, 32, 114, 51, 32, 45, 49]⟩ := by decide +kernel
theorem sm_text2 : inst_Text.f 30 4 1 2 3 1 = some ⟨#[98, 105, 110, 46, 49, 32, 114, 49, 32, 114, 50, 32, 114, 51]⟩ := by decide +kernel
theorem sm_uses : inst_Uses.f 30 10 0 0 0 0 = some [15] := by decide +kernel
theorem sm_ints : swageref02_Ints.f 30 [15] [15] = some true := by decide +kernel
end Go.Proofs.YtfdkhahpjbikiaaDoor.S
