/-
  DERIVED. GIVEN WITH THE SEED: THE CARDS: each row of YtmfcmjcgajjiiaaDoorRows.lean that lists a variable, with what it lists TIED to the program's text (the seventh form; the later family's looks); each row that meets fmt, with fmt's text TOLD by the authors' own Lean function (tested against real Go, not proved from fmt's source: count such statements apart). THE CARD IS WHAT COUNTS. Prove the row's statement (the work); the ties are given (YtmfcmjcgajjiiaaDoorTie.lean); close each card by the builder's one call (the guide's Derived/Test/ToyasCard.lean, 'card_holds'). Laid BY PROGRAM, IN A SANDBOX (cutbox-door.mjs). By AI agents, Wed Nov 11 2026. No macro, syntax, notation, axiom, sorry.
-/
import Derived.Test.YtmfcmjcgajjiiaaDoorRows
import GoSem.ClaimSeven
namespace Go.Proofs.YtmfcmjcgajjiiaaDoor
namespace Rows

/-- THE TIED CARD OF 'swagelaw05.AsmMakes'. -/
def asmMakesCard : Claim7 := { stood := { row := asmMakesRow, standIns := [], harness := (true, "b160d3e191b3d1fb57d48d87c11f43abb3b7d4f509315b02d1a4fa8bc4869d0a"), looks := false }, kinds := [], alts := [], laidByText := true, laidKinds := [.data, .data, .data], laidTests := true, laidLooks := .later }
def AsmMakesCardSaid : Prop := Claim7.holds Tryd.pinned (.plain (OpenSpec.ofChange asmMakesSpec)) asmMakesCard

/-- THE TIED CARD OF 'swagelaw05.AsmLeads'. -/
def asmLeadsCard : Claim7 := { stood := { row := asmLeadsRow, standIns := [], harness := (true, "b160d3e191b3d1fb57d48d87c11f43abb3b7d4f509315b02d1a4fa8bc4869d0a"), looks := false }, kinds := [], alts := [], laidByText := true, laidKinds := [.data, .data, .data], laidTests := true, laidLooks := .later }
def AsmLeadsCardSaid : Prop := Claim7.holds Tryd.pinned (.plain (OpenSpec.ofChange asmLeadsSpec)) asmLeadsCard

/-- THE TIED CARD OF 'swagelaw05.AsmShifts'. -/
def asmShiftsCard : Claim7 := { stood := { row := asmShiftsRow, standIns := [], harness := (true, "b160d3e191b3d1fb57d48d87c11f43abb3b7d4f509315b02d1a4fa8bc4869d0a"), looks := false }, kinds := [], alts := [], laidByText := true, laidKinds := [.data, .data, .data], laidTests := true, laidLooks := .later }
def AsmShiftsCardSaid : Prop := Claim7.holds Tryd.pinned (.plain (OpenSpec.ofChange asmShiftsSpec)) asmShiftsCard

/-- THE TIED CARD OF 'swagelaw05.AsmTexts'. -/
def asmTextsCard : Claim7 := { stood := { row := asmTextsRow, standIns := [], harness := (true, "b160d3e191b3d1fb57d48d87c11f43abb3b7d4f509315b02d1a4fa8bc4869d0a"), looks := false }, kinds := [], alts := [], laidByText := true, laidKinds := [.data, .data, .data], laidTests := true, laidLooks := .later }
def AsmTextsCardSaid : Prop := Claim7.holds Tryd.pinned (.plain (OpenSpec.ofChange asmTextsSpec)) asmTextsCard

/-- THE SECOND FORM's CARD OF 'swagelaw05.AsmMakes'. -/
def asmMakesUptoCard : Claim7 := { stood := { row := asmMakesUptoRow, standIns := [], harness := (true, "b160d3e191b3d1fb57d48d87c11f43abb3b7d4f509315b02d1a4fa8bc4869d0a"), looks := false }, kinds := [], alts := [], laidByText := true, laidKinds := [.data, .data, .data], laidTests := true, laidLooks := .later }
def AsmMakesUptoCardSaid : Prop := Claim7.holds Tryd.pinned (.plain (OpenSpec.upto asmMakesSpec)) asmMakesUptoCard

/-- THE SECOND FORM's CARD OF 'swagelaw05.AsmLeads'. -/
def asmLeadsUptoCard : Claim7 := { stood := { row := asmLeadsUptoRow, standIns := [], harness := (true, "b160d3e191b3d1fb57d48d87c11f43abb3b7d4f509315b02d1a4fa8bc4869d0a"), looks := false }, kinds := [], alts := [], laidByText := true, laidKinds := [.data, .data, .data], laidTests := true, laidLooks := .later }
def AsmLeadsUptoCardSaid : Prop := Claim7.holds Tryd.pinned (.plain (OpenSpec.upto asmLeadsSpec)) asmLeadsUptoCard

/-- THE SECOND FORM's CARD OF 'swagelaw05.AsmShifts'. -/
def asmShiftsUptoCard : Claim7 := { stood := { row := asmShiftsUptoRow, standIns := [], harness := (true, "b160d3e191b3d1fb57d48d87c11f43abb3b7d4f509315b02d1a4fa8bc4869d0a"), looks := false }, kinds := [], alts := [], laidByText := true, laidKinds := [.data, .data, .data], laidTests := true, laidLooks := .later }
def AsmShiftsUptoCardSaid : Prop := Claim7.holds Tryd.pinned (.plain (OpenSpec.upto asmShiftsSpec)) asmShiftsUptoCard

/-- THE SECOND FORM's CARD OF 'swagelaw05.AsmTexts'. -/
def asmTextsUptoCard : Claim7 := { stood := { row := asmTextsUptoRow, standIns := [], harness := (true, "b160d3e191b3d1fb57d48d87c11f43abb3b7d4f509315b02d1a4fa8bc4869d0a"), looks := false }, kinds := [], alts := [], laidByText := true, laidKinds := [.data, .data, .data], laidTests := true, laidLooks := .later }
def AsmTextsUptoCardSaid : Prop := Claim7.holds Tryd.pinned (.plain (OpenSpec.upto asmTextsSpec)) asmTextsUptoCard
end Rows
end Go.Proofs.YtmfcmjcgajjiiaaDoor
