/-
  No cell of these rows narrows 'for every input' (looked for: loops, veiled, ifaces, maps, wideKeys, modest, calm, conditions, laid).
  DERIVED. THE GIVEN ROWS OF THIS SEAT. 6 by the template 'for every input the law returns true; each argument reads behind the call as it read before'; 0 by the template 'total and deterministic' (their statements: YtnkgbnbbmcoiiaaTotals.lean).
  GIVEN WITH THE SEED: the statements are not yours to turn. If you find one false, say at which input.
  Laid BY PROGRAM, IN A SANDBOX (cutbox-rows.mjs): the forced cells as the released guide's own fill.sh prints them over the translation 78a0f6f034bb2947… (all of the seat's roots in one cut). By AI agents, Wed Nov 11 2026. No macro, syntax, notation, axiom, sorry.
-/
import Derived.Test.YtnkgbnbbmcoiiaaChecked
import GoSem.Claim
import GoSem.ClaimJoined
import GoSem.ClaimMapViews
import Derived.JoinedTies
import Derived.KernelRfl
namespace Go.Proofs.Ytnkgbnbbmcoiiaa
/- THE CELL 'sum', in the pinned program and in every row, IS THE sha256 OF THE DUMP (.gsa) THAT YtnkgbnbbmcoiiaaProg.lean LOADS. Nothing in Lean hashes anything: it is a label: what it is worth is what the hold of that sum in a sandbox is worth. -/
noncomputable def Try.pinned : Pinned := { name := "ytnkgbnbbmcoiiaa", sum := "78a0f6f034bb2947e4598fc25d7d379fac97977c1ad9a88b14fe48e6d29c804e", checked := Try.checked }
namespace Rows
def none {H : Type} : Left H := { results := [], args := [] }

/-- 'swagelaw25.SpansCross': WHATEVER THE INPUT: true; the input reads as it did. -/
def spansCrossSpec : ChangeSpec := { name := "spansCross", fn := fun _ => fun
  | [d1, d2] => { results := [.lit (.bool true)], args := [d1, d2] }
  | _ => none }
def spansCrossRow : OpenClaim := { program := "ytnkgbnbbmcoiiaa", sum := "78a0f6f034bb2947e4598fc25d7d379fac97977c1ad9a88b14fe48e6d29c804e", func := "swage/swagelaw25.SpansCross", spec := "spansCross", unfollowed := true, recurses := true, plainKeys := false, apart := false }
def SpansCrossSaid : Prop := spansCrossRow.holds Try.pinned (OpenSpec.ofChange spansCrossSpec)

/-- ITS FALSE NEIGHBOUR: 'it returns false'. Refute it at one input. -/
def spansCrossWrong : ChangeSpec := { name := "spansCross", fn := fun _ => fun
  | [d1, d2] => { results := [.lit (.bool false)], args := [d1, d2] }
  | _ => none }
def SpansCrossWrongFalsely : Prop := spansCrossRow.holds Try.pinned (OpenSpec.ofChange spansCrossWrong)

/-- 'swagelaw25.SpansPlaces': WHATEVER THE INPUT: true; the input reads as it did. -/
def spansPlacesSpec : ChangeSpec := { name := "spansPlaces", fn := fun _ => fun
  | [d] => { results := [.lit (.bool true)], args := [d] }
  | _ => none }
def spansPlacesRow : OpenClaim := { program := "ytnkgbnbbmcoiiaa", sum := "78a0f6f034bb2947e4598fc25d7d379fac97977c1ad9a88b14fe48e6d29c804e", func := "swage/swagelaw25.SpansPlaces", spec := "spansPlaces", unfollowed := true, recurses := true, plainKeys := false, apart := false }
def SpansPlacesSaid : Prop := spansPlacesRow.holds Try.pinned (OpenSpec.ofChange spansPlacesSpec)

/-- ITS FALSE NEIGHBOUR: 'it returns false'. Refute it at one input. -/
def spansPlacesWrong : ChangeSpec := { name := "spansPlaces", fn := fun _ => fun
  | [d] => { results := [.lit (.bool false)], args := [d] }
  | _ => none }
def SpansPlacesWrongFalsely : Prop := spansPlacesRow.holds Try.pinned (OpenSpec.ofChange spansPlacesWrong)

/-- 'swagelaw17.LiveFlows': WHATEVER THE INPUT: true; the input reads as it did. -/
def liveFlowsSpec : ChangeSpec := { name := "liveFlows", fn := fun _ => fun
  | [d1, d2] => { results := [.lit (.bool true)], args := [d1, d2] }
  | _ => none }
def liveFlowsRow : OpenClaim := { program := "ytnkgbnbbmcoiiaa", sum := "78a0f6f034bb2947e4598fc25d7d379fac97977c1ad9a88b14fe48e6d29c804e", func := "swage/swagelaw17.LiveFlows", spec := "liveFlows", unfollowed := true, recurses := true, plainKeys := false, apart := false }
def LiveFlowsSaid : Prop := liveFlowsRow.holds Try.pinned (OpenSpec.ofChange liveFlowsSpec)

/-- ITS FALSE NEIGHBOUR: 'it returns false'. Refute it at one input. -/
def liveFlowsWrong : ChangeSpec := { name := "liveFlows", fn := fun _ => fun
  | [d1, d2] => { results := [.lit (.bool false)], args := [d1, d2] }
  | _ => none }
def LiveFlowsWrongFalsely : Prop := liveFlowsRow.holds Try.pinned (OpenSpec.ofChange liveFlowsWrong)

/-- 'swagelaw25.SpansMeet': WHATEVER THE INPUT: true; the input reads as it did. -/
def spansMeetSpec : ChangeSpec := { name := "spansMeet", fn := fun _ => fun
  | [d] => { results := [.lit (.bool true)], args := [d] }
  | _ => none }
def spansMeetRow : OpenClaim := { program := "ytnkgbnbbmcoiiaa", sum := "78a0f6f034bb2947e4598fc25d7d379fac97977c1ad9a88b14fe48e6d29c804e", func := "swage/swagelaw25.SpansMeet", spec := "spansMeet", unfollowed := true, recurses := true, plainKeys := false, apart := false }
def SpansMeetSaid : Prop := spansMeetRow.holds Try.pinned (OpenSpec.ofChange spansMeetSpec)

/-- ITS FALSE NEIGHBOUR: 'it returns false'. Refute it at one input. -/
def spansMeetWrong : ChangeSpec := { name := "spansMeet", fn := fun _ => fun
  | [d] => { results := [.lit (.bool false)], args := [d] }
  | _ => none }
def SpansMeetWrongFalsely : Prop := spansMeetRow.holds Try.pinned (OpenSpec.ofChange spansMeetWrong)

/-- 'swagelaw17.LiveBounds': WHATEVER THE INPUT: true; the input reads as it did. -/
def liveBoundsSpec : ChangeSpec := { name := "liveBounds", fn := fun _ => fun
  | [d] => { results := [.lit (.bool true)], args := [d] }
  | _ => none }
def liveBoundsRow : OpenClaim := { program := "ytnkgbnbbmcoiiaa", sum := "78a0f6f034bb2947e4598fc25d7d379fac97977c1ad9a88b14fe48e6d29c804e", func := "swage/swagelaw17.LiveBounds", spec := "liveBounds", unfollowed := true, recurses := true, plainKeys := false, apart := false }
def LiveBoundsSaid : Prop := liveBoundsRow.holds Try.pinned (OpenSpec.ofChange liveBoundsSpec)

/-- ITS FALSE NEIGHBOUR: 'it returns false'. Refute it at one input. -/
def liveBoundsWrong : ChangeSpec := { name := "liveBounds", fn := fun _ => fun
  | [d] => { results := [.lit (.bool false)], args := [d] }
  | _ => none }
def LiveBoundsWrongFalsely : Prop := liveBoundsRow.holds Try.pinned (OpenSpec.ofChange liveBoundsWrong)

/-- 'swagelaw17.LiveLeaves': WHATEVER THE INPUT: true; the input reads as it did. -/
def liveLeavesSpec : ChangeSpec := { name := "liveLeaves", fn := fun _ => fun
  | [d] => { results := [.lit (.bool true)], args := [d] }
  | _ => none }
def liveLeavesRow : OpenClaim := { program := "ytnkgbnbbmcoiiaa", sum := "78a0f6f034bb2947e4598fc25d7d379fac97977c1ad9a88b14fe48e6d29c804e", func := "swage/swagelaw17.LiveLeaves", spec := "liveLeaves", unfollowed := true, recurses := true, plainKeys := false, apart := false }
def LiveLeavesSaid : Prop := liveLeavesRow.holds Try.pinned (OpenSpec.ofChange liveLeavesSpec)

/-- ITS FALSE NEIGHBOUR: 'it returns false'. Refute it at one input. -/
def liveLeavesWrong : ChangeSpec := { name := "liveLeaves", fn := fun _ => fun
  | [d] => { results := [.lit (.bool false)], args := [d] }
  | _ => none }
def LiveLeavesWrongFalsely : Prop := liveLeavesRow.holds Try.pinned (OpenSpec.ofChange liveLeavesWrong)

/- THE SECOND FORM. 'bulk': how many values and letters a reading holds, each counted each time it is reached (what is shared counts as often as it is met; a slice's spare places count too). A statement '..UptoSaid' is the law's where the arguments, and the package variables that the reading takes, are together of bulk at most 1048576: NARROWER than '..Said'. Prove '..Said' where nothing that the law and all that it calls make is longer than what came in: it says more and counts as full. Else prove '..UptoSaid'. A law counts once. -/
mutual
def uptoBulk {H : Type} : DataW H → Nat
  | .lit (.string bytes) => bytes.length + 1
  | .lit _ => 1
  | .nil => 1
  | .ptr d => uptoBulk d + 1
  | .slice elems spare => uptoBulkAll elems + uptoBulkAll spare + 1
  | .agg parts => uptoBulkAll parts + 1
  | .iface _ d => uptoBulk d + 1
  | .map entries => uptoBulkEntries entries + 1
  | .held _ => 1
def uptoBulkAll {H : Type} : List (DataW H) → Nat
  | [] => 0
  | d :: r => uptoBulk d + uptoBulkAll r
def uptoBulkEntries {H : Type} : List (Lit × DataW H) → Nat
  | [] => 0
  | x :: r => uptoBulkEntry x + uptoBulkEntries r
def uptoBulkEntry {H : Type} : Lit × DataW H → Nat
  | (.string bytes, d) => bytes.length + uptoBulk d + 1
  | (_, d) => uptoBulk d + 1
 end
def uptoSmall : (H : Type) → List (DataW H) → Bool := fun _ ds => decide (uptoBulkAll ds ≤ 1048576)
def OpenSpec.upto (s : _root_.Go.ChangeSpec) : _root_.Go.OpenSpec := { _root_.Go.OpenSpec.ofChange s with cond := some uptoSmall }

/-- 'swagelaw25.SpansCross', WHERE WHAT IT READS IS OF BULK AT MOST 1048576: true; the input reads as it did. -/
def spansCrossUptoRow : OpenClaim := { program := "ytnkgbnbbmcoiiaa", sum := "78a0f6f034bb2947e4598fc25d7d379fac97977c1ad9a88b14fe48e6d29c804e", func := "swage/swagelaw25.SpansCross", spec := "spansCross", unfollowed := true, recurses := true, plainKeys := false, apart := false, narrowed := true }
def SpansCrossUptoSaid : Prop := spansCrossUptoRow.holds Try.pinned (OpenSpec.upto spansCrossSpec)

/-- 'swagelaw25.SpansPlaces', WHERE WHAT IT READS IS OF BULK AT MOST 1048576: true; the input reads as it did. -/
def spansPlacesUptoRow : OpenClaim := { program := "ytnkgbnbbmcoiiaa", sum := "78a0f6f034bb2947e4598fc25d7d379fac97977c1ad9a88b14fe48e6d29c804e", func := "swage/swagelaw25.SpansPlaces", spec := "spansPlaces", unfollowed := true, recurses := true, plainKeys := false, apart := false, narrowed := true }
def SpansPlacesUptoSaid : Prop := spansPlacesUptoRow.holds Try.pinned (OpenSpec.upto spansPlacesSpec)

/-- 'swagelaw17.LiveFlows', WHERE WHAT IT READS IS OF BULK AT MOST 1048576: true; the input reads as it did. -/
def liveFlowsUptoRow : OpenClaim := { program := "ytnkgbnbbmcoiiaa", sum := "78a0f6f034bb2947e4598fc25d7d379fac97977c1ad9a88b14fe48e6d29c804e", func := "swage/swagelaw17.LiveFlows", spec := "liveFlows", unfollowed := true, recurses := true, plainKeys := false, apart := false, narrowed := true }
def LiveFlowsUptoSaid : Prop := liveFlowsUptoRow.holds Try.pinned (OpenSpec.upto liveFlowsSpec)

/-- 'swagelaw25.SpansMeet', WHERE WHAT IT READS IS OF BULK AT MOST 1048576: true; the input reads as it did. -/
def spansMeetUptoRow : OpenClaim := { program := "ytnkgbnbbmcoiiaa", sum := "78a0f6f034bb2947e4598fc25d7d379fac97977c1ad9a88b14fe48e6d29c804e", func := "swage/swagelaw25.SpansMeet", spec := "spansMeet", unfollowed := true, recurses := true, plainKeys := false, apart := false, narrowed := true }
def SpansMeetUptoSaid : Prop := spansMeetUptoRow.holds Try.pinned (OpenSpec.upto spansMeetSpec)

/-- 'swagelaw17.LiveBounds', WHERE WHAT IT READS IS OF BULK AT MOST 1048576: true; the input reads as it did. -/
def liveBoundsUptoRow : OpenClaim := { program := "ytnkgbnbbmcoiiaa", sum := "78a0f6f034bb2947e4598fc25d7d379fac97977c1ad9a88b14fe48e6d29c804e", func := "swage/swagelaw17.LiveBounds", spec := "liveBounds", unfollowed := true, recurses := true, plainKeys := false, apart := false, narrowed := true }
def LiveBoundsUptoSaid : Prop := liveBoundsUptoRow.holds Try.pinned (OpenSpec.upto liveBoundsSpec)

/-- 'swagelaw17.LiveLeaves', WHERE WHAT IT READS IS OF BULK AT MOST 1048576: true; the input reads as it did. -/
def liveLeavesUptoRow : OpenClaim := { program := "ytnkgbnbbmcoiiaa", sum := "78a0f6f034bb2947e4598fc25d7d379fac97977c1ad9a88b14fe48e6d29c804e", func := "swage/swagelaw17.LiveLeaves", spec := "liveLeaves", unfollowed := true, recurses := true, plainKeys := false, apart := false, narrowed := true }
def LiveLeavesUptoSaid : Prop := liveLeavesUptoRow.holds Try.pinned (OpenSpec.upto liveLeavesSpec)

end Rows
end Go.Proofs.Ytnkgbnbbmcoiiaa
