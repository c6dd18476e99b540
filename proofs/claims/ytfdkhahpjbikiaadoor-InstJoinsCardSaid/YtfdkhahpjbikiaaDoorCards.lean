/-
  DERIVED. GIVEN WITH THE SEED: THE CARDS: each row of YtfdkhahpjbikiaaDoorRows.lean that lists a variable, with what it lists TIED to the program's text (the seventh form; the later family's looks); each row that meets fmt, with fmt's text TOLD by the authors' own Lean function (tested against real Go, not proved from fmt's source: count such statements apart). THE CARD IS WHAT COUNTS. Prove the row's statement (the work); the ties are given (YtfdkhahpjbikiaaDoorTie.lean); close each card by the builder's one call (the guide's Derived/Test/ToyasCard.lean, 'card_holds'). Laid BY PROGRAM, IN A SANDBOX (cutbox-door.mjs). By AI agents, Wed Nov 11 2026. No macro, syntax, notation, axiom, sorry.
-/
import Derived.Test.YtfdkhahpjbikiaaDoorRows
import GoSem.ClaimSeven
namespace Go.Proofs.YtfdkhahpjbikiaaDoor
namespace Rows

/-- THE TIED CARD OF 'swagelaw02.InstApart'. -/
def instApartCard : Claim7 := { stood := { row := instApartRow, standIns := [], harness := (true, "19ce4be68eb9c1e258743ce6f5c92baf08a8ca7e959909ecc22362abe0aaf994"), looks := false }, kinds := [], alts := [], laidByText := true, laidKinds := [.data, .data, .data], laidTests := true, laidLooks := .later }
def InstApartCardSaid : Prop := Claim7.holds Tryd.pinned (.plain (OpenSpec.ofChange instApartSpec)) instApartCard

/-- THE TIED CARD OF 'swagelaw02.InstWrites'. -/
def instWritesCard : Claim7 := { stood := { row := instWritesRow, standIns := [], harness := (true, "19ce4be68eb9c1e258743ce6f5c92baf08a8ca7e959909ecc22362abe0aaf994"), looks := false }, kinds := [], alts := [], laidByText := true, laidKinds := [.data, .data, .data], laidTests := true, laidLooks := .later }
def InstWritesCardSaid : Prop := Claim7.holds Tryd.pinned (.plain (OpenSpec.ofChange instWritesSpec)) instWritesCard

/-- THE TIED CARD OF 'swagelaw02.InstFields'. -/
def instFieldsCard : Claim7 := { stood := { row := instFieldsRow, standIns := [], harness := (true, "19ce4be68eb9c1e258743ce6f5c92baf08a8ca7e959909ecc22362abe0aaf994"), looks := false }, kinds := [], alts := [], laidByText := true, laidKinds := [.data, .data, .data], laidTests := true, laidLooks := .later }
def InstFieldsCardSaid : Prop := Claim7.holds Tryd.pinned (.plain (OpenSpec.ofChange instFieldsSpec)) instFieldsCard

/-- THE TIED CARD OF 'swagelaw02.InstReads'. -/
def instReadsCard : Claim7 := { stood := { row := instReadsRow, standIns := [], harness := (true, "19ce4be68eb9c1e258743ce6f5c92baf08a8ca7e959909ecc22362abe0aaf994"), looks := false }, kinds := [], alts := [], laidByText := true, laidKinds := [.data, .data, .data], laidTests := true, laidLooks := .later }
def InstReadsCardSaid : Prop := Claim7.holds Tryd.pinned (.plain (OpenSpec.ofChange instReadsSpec)) instReadsCard

/-- THE TIED CARD OF 'swagelaw02.InstRows'. -/
def instRowsCard : Claim7 := { stood := { row := instRowsRow, standIns := [], harness := (true, "19ce4be68eb9c1e258743ce6f5c92baf08a8ca7e959909ecc22362abe0aaf994"), looks := false }, kinds := [], alts := [], laidByText := true, laidKinds := [.data, .data, .data], laidTests := true, laidLooks := .later }
def InstRowsCardSaid : Prop := Claim7.holds Tryd.pinned (.plain (OpenSpec.ofChange instRowsSpec)) instRowsCard

/-- THE TIED CARD OF 'swagelaw02.InstJoins'. -/
def instJoinsCard : Claim7 := { stood := { row := instJoinsRow, standIns := [], harness := (true, "19ce4be68eb9c1e258743ce6f5c92baf08a8ca7e959909ecc22362abe0aaf994"), looks := false }, kinds := [], alts := [], laidByText := true, laidKinds := [.data, .data, .data], laidTests := true, laidLooks := .later }
def InstJoinsCardSaid : Prop := Claim7.holds Tryd.pinned (.plain (OpenSpec.ofChange instJoinsSpec)) instJoinsCard

/-- THE SECOND FORM's CARD OF 'swagelaw02.InstApart'. -/
def instApartUptoCard : Claim7 := { stood := { row := instApartUptoRow, standIns := [], harness := (true, "19ce4be68eb9c1e258743ce6f5c92baf08a8ca7e959909ecc22362abe0aaf994"), looks := false }, kinds := [], alts := [], laidByText := true, laidKinds := [.data, .data, .data], laidTests := true, laidLooks := .later }
def InstApartUptoCardSaid : Prop := Claim7.holds Tryd.pinned (.plain (OpenSpec.upto instApartSpec)) instApartUptoCard

/-- THE SECOND FORM's CARD OF 'swagelaw02.InstWrites'. -/
def instWritesUptoCard : Claim7 := { stood := { row := instWritesUptoRow, standIns := [], harness := (true, "19ce4be68eb9c1e258743ce6f5c92baf08a8ca7e959909ecc22362abe0aaf994"), looks := false }, kinds := [], alts := [], laidByText := true, laidKinds := [.data, .data, .data], laidTests := true, laidLooks := .later }
def InstWritesUptoCardSaid : Prop := Claim7.holds Tryd.pinned (.plain (OpenSpec.upto instWritesSpec)) instWritesUptoCard

/-- THE SECOND FORM's CARD OF 'swagelaw02.InstFields'. -/
def instFieldsUptoCard : Claim7 := { stood := { row := instFieldsUptoRow, standIns := [], harness := (true, "19ce4be68eb9c1e258743ce6f5c92baf08a8ca7e959909ecc22362abe0aaf994"), looks := false }, kinds := [], alts := [], laidByText := true, laidKinds := [.data, .data, .data], laidTests := true, laidLooks := .later }
def InstFieldsUptoCardSaid : Prop := Claim7.holds Tryd.pinned (.plain (OpenSpec.upto instFieldsSpec)) instFieldsUptoCard

/-- THE SECOND FORM's CARD OF 'swagelaw02.InstReads'. -/
def instReadsUptoCard : Claim7 := { stood := { row := instReadsUptoRow, standIns := [], harness := (true, "19ce4be68eb9c1e258743ce6f5c92baf08a8ca7e959909ecc22362abe0aaf994"), looks := false }, kinds := [], alts := [], laidByText := true, laidKinds := [.data, .data, .data], laidTests := true, laidLooks := .later }
def InstReadsUptoCardSaid : Prop := Claim7.holds Tryd.pinned (.plain (OpenSpec.upto instReadsSpec)) instReadsUptoCard

/-- THE SECOND FORM's CARD OF 'swagelaw02.InstRows'. -/
def instRowsUptoCard : Claim7 := { stood := { row := instRowsUptoRow, standIns := [], harness := (true, "19ce4be68eb9c1e258743ce6f5c92baf08a8ca7e959909ecc22362abe0aaf994"), looks := false }, kinds := [], alts := [], laidByText := true, laidKinds := [.data, .data, .data], laidTests := true, laidLooks := .later }
def InstRowsUptoCardSaid : Prop := Claim7.holds Tryd.pinned (.plain (OpenSpec.upto instRowsSpec)) instRowsUptoCard

/-- THE SECOND FORM's CARD OF 'swagelaw02.InstJoins'. -/
def instJoinsUptoCard : Claim7 := { stood := { row := instJoinsUptoRow, standIns := [], harness := (true, "19ce4be68eb9c1e258743ce6f5c92baf08a8ca7e959909ecc22362abe0aaf994"), looks := false }, kinds := [], alts := [], laidByText := true, laidKinds := [.data, .data, .data], laidTests := true, laidLooks := .later }
def InstJoinsUptoCardSaid : Prop := Claim7.holds Tryd.pinned (.plain (OpenSpec.upto instJoinsSpec)) instJoinsUptoCard
end Rows
end Go.Proofs.YtfdkhahpjbikiaaDoor
