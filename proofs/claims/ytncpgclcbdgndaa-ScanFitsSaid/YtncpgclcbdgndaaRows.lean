/-
  No cell of these rows narrows 'for every input' (looked for: loops, veiled, ifaces, maps, wideKeys, modest, calm, conditions, laid).
  DERIVED. THE GIVEN ROWS OF THIS SEAT. 6 by the template 'for every input the law returns true; each argument reads behind the call as it read before'; 0 by the template 'total and deterministic' (their statements: YtncpgclcbdgndaaTotals.lean).
  GIVEN WITH THE SEED: the statements are not yours to turn. If you find one false, say at which input.
  Laid BY PROGRAM, IN A SANDBOX (cutbox-rows.mjs): the forced cells as the released guide's own fill.sh prints them over the translation 1e70c8bda1070ea4… (all of the seat's roots in one cut). By AI agents, Wed Nov 11 2026. No macro, syntax, notation, axiom, sorry.
-/
import Derived.Test.YtncpgclcbdgndaaChecked
import GoSem.Claim
import GoSem.ClaimJoined
import GoSem.ClaimMapViews
import Derived.JoinedTies
import Derived.KernelRfl
namespace Go.Proofs.Ytncpgclcbdgndaa
/- THE CELL 'sum', in the pinned program and in every row, IS THE sha256 OF THE DUMP (.gsa) THAT YtncpgclcbdgndaaProg.lean LOADS. Nothing in Lean hashes anything: it is a label: what it is worth is what the hold of that sum in a sandbox is worth. -/
noncomputable def Try.pinned : Pinned := { name := "ytncpgclcbdgndaa", sum := "1e70c8bda1070ea4f72f1db75b229581987aa73aeb7889176555274349a26da2", checked := Try.checked }
namespace Rows
def none {H : Type} : Left H := { results := [], args := [] }

/-- 'swagelaw26.ScanGives': WHATEVER THE INPUT: true; the input reads as it did. -/
def scanGivesSpec : ChangeSpec := { name := "scanGives", fn := fun _ => fun
  | [d1, d2] => { results := [.lit (.bool true)], args := [d1, d2] }
  | _ => none }
def scanGivesRow : OpenClaim := { program := "ytncpgclcbdgndaa", sum := "1e70c8bda1070ea4f72f1db75b229581987aa73aeb7889176555274349a26da2", func := "swage/swagelaw26.ScanGives", spec := "scanGives", unfollowed := true, recurses := true, apart := false }
def ScanGivesSaid : Prop := scanGivesRow.holds Try.pinned (OpenSpec.ofChange scanGivesSpec)

/-- ITS FALSE NEIGHBOUR: 'it returns false'. Refute it at one input. -/
def scanGivesWrong : ChangeSpec := { name := "scanGives", fn := fun _ => fun
  | [d1, d2] => { results := [.lit (.bool false)], args := [d1, d2] }
  | _ => none }
def ScanGivesWrongFalsely : Prop := scanGivesRow.holds Try.pinned (OpenSpec.ofChange scanGivesWrong)

/-- 'swagelaw26.ScanFits': WHATEVER THE INPUT: true; the input reads as it did. -/
def scanFitsSpec : ChangeSpec := { name := "scanFits", fn := fun _ => fun
  | [d1, d2, d3] => { results := [.lit (.bool true)], args := [d1, d2, d3] }
  | _ => none }
def scanFitsRow : OpenClaim := { program := "ytncpgclcbdgndaa", sum := "1e70c8bda1070ea4f72f1db75b229581987aa73aeb7889176555274349a26da2", func := "swage/swagelaw26.ScanFits", spec := "scanFits", unfollowed := true, recurses := true, apart := false }
def ScanFitsSaid : Prop := scanFitsRow.holds Try.pinned (OpenSpec.ofChange scanFitsSpec)

/-- ITS FALSE NEIGHBOUR: 'it returns false'. Refute it at one input. -/
def scanFitsWrong : ChangeSpec := { name := "scanFits", fn := fun _ => fun
  | [d1, d2, d3] => { results := [.lit (.bool false)], args := [d1, d2, d3] }
  | _ => none }
def ScanFitsWrongFalsely : Prop := scanFitsRow.holds Try.pinned (OpenSpec.ofChange scanFitsWrong)

/-- 'swagelaw26.ScanMore': WHATEVER THE INPUT: true; the input reads as it did. -/
def scanMoreSpec : ChangeSpec := { name := "scanMore", fn := fun _ => fun
  | [d] => { results := [.lit (.bool true)], args := [d] }
  | _ => none }
def scanMoreRow : OpenClaim := { program := "ytncpgclcbdgndaa", sum := "1e70c8bda1070ea4f72f1db75b229581987aa73aeb7889176555274349a26da2", func := "swage/swagelaw26.ScanMore", spec := "scanMore", unfollowed := true, recurses := true, apart := false }
def ScanMoreSaid : Prop := scanMoreRow.holds Try.pinned (OpenSpec.ofChange scanMoreSpec)

/-- ITS FALSE NEIGHBOUR: 'it returns false'. Refute it at one input. -/
def scanMoreWrong : ChangeSpec := { name := "scanMore", fn := fun _ => fun
  | [d] => { results := [.lit (.bool false)], args := [d] }
  | _ => none }
def ScanMoreWrongFalsely : Prop := scanMoreRow.holds Try.pinned (OpenSpec.ofChange scanMoreWrong)

/-- 'swagelaw26.ScanClique': WHATEVER THE INPUT: true; the input reads as it did. -/
def scanCliqueSpec : ChangeSpec := { name := "scanClique", fn := fun _ => fun
  | [d1, d2] => { results := [.lit (.bool true)], args := [d1, d2] }
  | _ => none }
def scanCliqueRow : OpenClaim := { program := "ytncpgclcbdgndaa", sum := "1e70c8bda1070ea4f72f1db75b229581987aa73aeb7889176555274349a26da2", func := "swage/swagelaw26.ScanClique", spec := "scanClique", unfollowed := true, recurses := true, apart := false }
def ScanCliqueSaid : Prop := scanCliqueRow.holds Try.pinned (OpenSpec.ofChange scanCliqueSpec)

/-- ITS FALSE NEIGHBOUR: 'it returns false'. Refute it at one input. -/
def scanCliqueWrong : ChangeSpec := { name := "scanClique", fn := fun _ => fun
  | [d1, d2] => { results := [.lit (.bool false)], args := [d1, d2] }
  | _ => none }
def ScanCliqueWrongFalsely : Prop := scanCliqueRow.holds Try.pinned (OpenSpec.ofChange scanCliqueWrong)

/-- 'swagelaw26.ScanKeeps': WHATEVER THE INPUT: true; the input reads as it did. -/
def scanKeepsSpec : ChangeSpec := { name := "scanKeeps", fn := fun _ => fun
  | [d1, d2] => { results := [.lit (.bool true)], args := [d1, d2] }
  | _ => none }
def scanKeepsRow : OpenClaim := { program := "ytncpgclcbdgndaa", sum := "1e70c8bda1070ea4f72f1db75b229581987aa73aeb7889176555274349a26da2", func := "swage/swagelaw26.ScanKeeps", spec := "scanKeeps", unfollowed := true, recurses := true, apart := false }
def ScanKeepsSaid : Prop := scanKeepsRow.holds Try.pinned (OpenSpec.ofChange scanKeepsSpec)

/-- ITS FALSE NEIGHBOUR: 'it returns false'. Refute it at one input. -/
def scanKeepsWrong : ChangeSpec := { name := "scanKeeps", fn := fun _ => fun
  | [d1, d2] => { results := [.lit (.bool false)], args := [d1, d2] }
  | _ => none }
def ScanKeepsWrongFalsely : Prop := scanKeepsRow.holds Try.pinned (OpenSpec.ofChange scanKeepsWrong)

/-- 'swagelaw26.ScanAlone': WHATEVER THE INPUT: true; the input reads as it did. -/
def scanAloneSpec : ChangeSpec := { name := "scanAlone", fn := fun _ => fun
  | [d1, d2] => { results := [.lit (.bool true)], args := [d1, d2] }
  | _ => none }
def scanAloneRow : OpenClaim := { program := "ytncpgclcbdgndaa", sum := "1e70c8bda1070ea4f72f1db75b229581987aa73aeb7889176555274349a26da2", func := "swage/swagelaw26.ScanAlone", spec := "scanAlone", unfollowed := true, recurses := true, apart := false }
def ScanAloneSaid : Prop := scanAloneRow.holds Try.pinned (OpenSpec.ofChange scanAloneSpec)

/-- ITS FALSE NEIGHBOUR: 'it returns false'. Refute it at one input. -/
def scanAloneWrong : ChangeSpec := { name := "scanAlone", fn := fun _ => fun
  | [d1, d2] => { results := [.lit (.bool false)], args := [d1, d2] }
  | _ => none }
def ScanAloneWrongFalsely : Prop := scanAloneRow.holds Try.pinned (OpenSpec.ofChange scanAloneWrong)

/- THE SECOND FORM. 'bulk': how many values and letters a reading holds, each counted each time it is reached (what is shared counts as often as it is met; a slice's spare places count too). A statement '..UptoSaid' is the law's where the arguments, and the package variables that the reading takes, are together of bulk at most 1048576: NARROWER than '..Said'. Prove '..Said' where nothing that the law and all that it calls make is longer than what came in: it says more and counts as full. Else prove '..UptoSaid'. A law counts once. -/
mutual
def uptoBulk {H : Type} : DataW H → Nat
  | .lit (.string bytes) => bytes.length + 1
  | .lit _ => 1
  | .nil => 1
  | .ptr d => uptoBulk d + 1
  | .slice elems spare => uptoBulkAll elems + uptoBulkAll spare + 1
  | .agg parts => uptoBulkAll parts + 1
  | .iface _ d => uptoBulk d + 1
  | .map entries => uptoBulkEntries entries + 1
  | .held _ => 1
def uptoBulkAll {H : Type} : List (DataW H) → Nat
  | [] => 0
  | d :: r => uptoBulk d + uptoBulkAll r
def uptoBulkEntries {H : Type} : List (Lit × DataW H) → Nat
  | [] => 0
  | x :: r => uptoBulkEntry x + uptoBulkEntries r
def uptoBulkEntry {H : Type} : Lit × DataW H → Nat
  | (.string bytes, d) => bytes.length + uptoBulk d + 1
  | (_, d) => uptoBulk d + 1
 end
def uptoSmall : (H : Type) → List (DataW H) → Bool := fun _ ds => decide (uptoBulkAll ds ≤ 1048576)
def OpenSpec.upto (s : _root_.Go.ChangeSpec) : _root_.Go.OpenSpec := { _root_.Go.OpenSpec.ofChange s with cond := some uptoSmall }

/-- 'swagelaw26.ScanGives', WHERE WHAT IT READS IS OF BULK AT MOST 1048576: true; the input reads as it did. -/
def scanGivesUptoRow : OpenClaim := { program := "ytncpgclcbdgndaa", sum := "1e70c8bda1070ea4f72f1db75b229581987aa73aeb7889176555274349a26da2", func := "swage/swagelaw26.ScanGives", spec := "scanGives", unfollowed := true, recurses := true, apart := false, narrowed := true }
def ScanGivesUptoSaid : Prop := scanGivesUptoRow.holds Try.pinned (OpenSpec.upto scanGivesSpec)

/-- 'swagelaw26.ScanFits', WHERE WHAT IT READS IS OF BULK AT MOST 1048576: true; the input reads as it did. -/
def scanFitsUptoRow : OpenClaim := { program := "ytncpgclcbdgndaa", sum := "1e70c8bda1070ea4f72f1db75b229581987aa73aeb7889176555274349a26da2", func := "swage/swagelaw26.ScanFits", spec := "scanFits", unfollowed := true, recurses := true, apart := false, narrowed := true }
def ScanFitsUptoSaid : Prop := scanFitsUptoRow.holds Try.pinned (OpenSpec.upto scanFitsSpec)

/-- 'swagelaw26.ScanMore', WHERE WHAT IT READS IS OF BULK AT MOST 1048576: true; the input reads as it did. -/
def scanMoreUptoRow : OpenClaim := { program := "ytncpgclcbdgndaa", sum := "1e70c8bda1070ea4f72f1db75b229581987aa73aeb7889176555274349a26da2", func := "swage/swagelaw26.ScanMore", spec := "scanMore", unfollowed := true, recurses := true, apart := false, narrowed := true }
def ScanMoreUptoSaid : Prop := scanMoreUptoRow.holds Try.pinned (OpenSpec.upto scanMoreSpec)

/-- 'swagelaw26.ScanClique', WHERE WHAT IT READS IS OF BULK AT MOST 1048576: true; the input reads as it did. -/
def scanCliqueUptoRow : OpenClaim := { program := "ytncpgclcbdgndaa", sum := "1e70c8bda1070ea4f72f1db75b229581987aa73aeb7889176555274349a26da2", func := "swage/swagelaw26.ScanClique", spec := "scanClique", unfollowed := true, recurses := true, apart := false, narrowed := true }
def ScanCliqueUptoSaid : Prop := scanCliqueUptoRow.holds Try.pinned (OpenSpec.upto scanCliqueSpec)

/-- 'swagelaw26.ScanKeeps', WHERE WHAT IT READS IS OF BULK AT MOST 1048576: true; the input reads as it did. -/
def scanKeepsUptoRow : OpenClaim := { program := "ytncpgclcbdgndaa", sum := "1e70c8bda1070ea4f72f1db75b229581987aa73aeb7889176555274349a26da2", func := "swage/swagelaw26.ScanKeeps", spec := "scanKeeps", unfollowed := true, recurses := true, apart := false, narrowed := true }
def ScanKeepsUptoSaid : Prop := scanKeepsUptoRow.holds Try.pinned (OpenSpec.upto scanKeepsSpec)

/-- 'swagelaw26.ScanAlone', WHERE WHAT IT READS IS OF BULK AT MOST 1048576: true; the input reads as it did. -/
def scanAloneUptoRow : OpenClaim := { program := "ytncpgclcbdgndaa", sum := "1e70c8bda1070ea4f72f1db75b229581987aa73aeb7889176555274349a26da2", func := "swage/swagelaw26.ScanAlone", spec := "scanAlone", unfollowed := true, recurses := true, apart := false, narrowed := true }
def ScanAloneUptoSaid : Prop := scanAloneUptoRow.holds Try.pinned (OpenSpec.upto scanAloneSpec)

end Rows
end Go.Proofs.Ytncpgclcbdgndaa
