import Derived.Test.YtfdkhahpjbikiaaDoorLq
import Derived.Test.YtfdkhahpjbikiaaDoorOreads
namespace Go.Proofs.YtfdkhahpjbikiaaDoor.S
open Go.RowKit Go.Proofs.YtfdkhahpjbikiaaDoorW.PrintWords Go.Proofs.YtfdkhahpjbikiaaDoorW.PrintLast Go.Proofs.YtfdkhahpjbikiaaDoorW.PrintMore
set_option linter.unusedVariables false
theorem reads_law (A0 : Option Addr) (c0 : Nat) (l : List Int) (w : World) (hGL : Aside0 (GL w)) (hr : Kd.C (Kd.int .u8) w A0 l.length l) (hc : l.length ≤ c0) (hb : ∀ x ∈ l, Byte x) :
    Calls Tryd.prog 6 #[.slice A0 l.length c0] w fun e w' => e = .returned (.bool true) ∧ Below w.heap.size w w' := by
  by_cases hl : (l.length : Int) > 1024
  · exact reads_long 0 A0 c0 l w hGL hr hc hl
  · obtain ⟨t, h1, h2⟩ := dec_get l (by omega) hb
    have hs := allD_len l
    exact reads_walk 200 A0 c0 l t.1 t.2.1 t.2.2.1 t.2.2.2.1 t.2.2.2.2.1 t.2.2.2.2.2 (allD l).1 (allD l).2 w hGL hr hc hl (h1 200 (by decide)) (h2 200 (by decide)) (da_eq (by omega) hb (by decide)) (rda_eq (by omega) hb (by omega)) (same_self _ _ (by omega) (by omega))
end Go.Proofs.YtfdkhahpjbikiaaDoor.S
