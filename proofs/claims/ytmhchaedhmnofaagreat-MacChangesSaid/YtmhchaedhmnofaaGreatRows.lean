/-
  No cell of these rows narrows 'for every input' (looked for: loops, veiled, ifaces, maps, wideKeys, modest, calm, conditions, laid).
  DERIVED. THE GIVEN ROWS OF THIS SEAT. 15 by the template 'for every input the law returns true; each argument reads behind the call as it read before'; 0 by the template 'total and deterministic' (their statements: YtmhchaedhmnofaaGreatTotals.lean).
  GIVEN WITH THE SEED: the statements are not yours to turn. If you find one false, say at which input.
  Laid BY PROGRAM, IN A SANDBOX (cutbox-rows.mjs): the forced cells as the released guide's own fill.sh prints them over the translation dfedf9da77e2ec21… (all of the seat's roots in one cut). By AI agents, Wed Nov 11 2026. No macro, syntax, notation, axiom, sorry.
-/
import Derived.Test.YtmhchaedhmnofaaGreatChecked
import GoSem.Claim
import GoSem.ClaimJoined
import GoSem.ClaimMapViews
import Derived.JoinedTies
import Derived.KernelRfl
namespace Go.Proofs.YtmhchaedhmnofaaGreat
/- THE CELL 'sum', in the pinned program and in every row, IS THE sha256 OF THE DUMP (.gsa) THAT YtmhchaedhmnofaaGreatProg.lean LOADS. Nothing in Lean hashes anything: it is a label: what it is worth is what the hold of that sum in a sandbox is worth. -/
noncomputable def Tryz.pinned : Pinned := { name := "ytmhchaedhmnofaagreat", sum := "dfedf9da77e2ec2122210b5301fea4754e9b3a8cc9d0286b04e3d55daf2cdadd", checked := Tryz.checked }
namespace Rows
def none {H : Type} : Left H := { results := [], args := [] }

/-- 'hopmeshlaw18.MacStations': WHATEVER THE INPUT: true; the input reads as it did. -/
def macStationsSpec : ChangeSpec := { name := "macStations", fn := fun _ => fun
  | [d1, d2, d3] => { results := [.lit (.bool true)], args := [d1, d2, d3] }
  | _ => none }
def macStationsRow : OpenClaim := { program := "ytmhchaedhmnofaagreat", sum := "dfedf9da77e2ec2122210b5301fea4754e9b3a8cc9d0286b04e3d55daf2cdadd", func := "hopmesh/hopmeshlaw18.MacStations", spec := "macStations", inPlace := ["slices.overlaps[hopmesh/api.Packet]", "slices.overlaps[int]", "slices.overlaps[hopmesh/api.Seen]"], unfollowed := true, recurses := true, apart := false }
def MacStationsSaid : Prop := macStationsRow.holds Tryz.pinned (OpenSpec.ofChange macStationsSpec)

/-- ITS FALSE NEIGHBOUR: 'it returns false'. Refute it at one input. -/
def macStationsWrong : ChangeSpec := { name := "macStations", fn := fun _ => fun
  | [d1, d2, d3] => { results := [.lit (.bool false)], args := [d1, d2, d3] }
  | _ => none }
def MacStationsWrongFalsely : Prop := macStationsRow.holds Tryz.pinned (OpenSpec.ofChange macStationsWrong)

/-- 'hopmeshlaw18.MacActs': WHATEVER THE INPUT: true; the input reads as it did. -/
def macActsSpec : ChangeSpec := { name := "macActs", fn := fun _ => fun
  | [d1, d2] => { results := [.lit (.bool true)], args := [d1, d2] }
  | _ => none }
def macActsRow : OpenClaim := { program := "ytmhchaedhmnofaagreat", sum := "dfedf9da77e2ec2122210b5301fea4754e9b3a8cc9d0286b04e3d55daf2cdadd", func := "hopmesh/hopmeshlaw18.MacActs", spec := "macActs", inPlace := ["slices.overlaps[hopmesh/api.Packet]", "slices.overlaps[int]", "slices.overlaps[hopmesh/api.Seen]"], unfollowed := true, recurses := true, apart := false }
def MacActsSaid : Prop := macActsRow.holds Tryz.pinned (OpenSpec.ofChange macActsSpec)

/-- ITS FALSE NEIGHBOUR: 'it returns false'. Refute it at one input. -/
def macActsWrong : ChangeSpec := { name := "macActs", fn := fun _ => fun
  | [d1, d2] => { results := [.lit (.bool false)], args := [d1, d2] }
  | _ => none }
def MacActsWrongFalsely : Prop := macActsRow.holds Tryz.pinned (OpenSpec.ofChange macActsWrong)

/-- 'hopmeshlaw18.MacDone': WHATEVER THE INPUT: true; the input reads as it did. -/
def macDoneSpec : ChangeSpec := { name := "macDone", fn := fun _ => fun
  | [d1, d2, d3] => { results := [.lit (.bool true)], args := [d1, d2, d3] }
  | _ => none }
def macDoneRow : OpenClaim := { program := "ytmhchaedhmnofaagreat", sum := "dfedf9da77e2ec2122210b5301fea4754e9b3a8cc9d0286b04e3d55daf2cdadd", func := "hopmesh/hopmeshlaw18.MacDone", spec := "macDone", inPlace := ["slices.overlaps[hopmesh/api.Packet]", "slices.overlaps[int]", "slices.overlaps[hopmesh/api.Seen]"], unfollowed := true, recurses := true, apart := false }
def MacDoneSaid : Prop := macDoneRow.holds Tryz.pinned (OpenSpec.ofChange macDoneSpec)

/-- ITS FALSE NEIGHBOUR: 'it returns false'. Refute it at one input. -/
def macDoneWrong : ChangeSpec := { name := "macDone", fn := fun _ => fun
  | [d1, d2, d3] => { results := [.lit (.bool false)], args := [d1, d2, d3] }
  | _ => none }
def MacDoneWrongFalsely : Prop := macDoneRow.holds Tryz.pinned (OpenSpec.ofChange macDoneWrong)

/-- 'hopmeshlaw18.MacStays': WHATEVER THE INPUT: true; the input reads as it did. -/
def macStaysSpec : ChangeSpec := { name := "macStays", fn := fun _ => fun
  | [d1, d2, d3] => { results := [.lit (.bool true)], args := [d1, d2, d3] }
  | _ => none }
def macStaysRow : OpenClaim := { program := "ytmhchaedhmnofaagreat", sum := "dfedf9da77e2ec2122210b5301fea4754e9b3a8cc9d0286b04e3d55daf2cdadd", func := "hopmesh/hopmeshlaw18.MacStays", spec := "macStays", inPlace := ["slices.overlaps[hopmesh/api.Packet]", "slices.overlaps[int]", "slices.overlaps[hopmesh/api.Seen]"], unfollowed := true, recurses := true, apart := false }
def MacStaysSaid : Prop := macStaysRow.holds Tryz.pinned (OpenSpec.ofChange macStaysSpec)

/-- ITS FALSE NEIGHBOUR: 'it returns false'. Refute it at one input. -/
def macStaysWrong : ChangeSpec := { name := "macStays", fn := fun _ => fun
  | [d1, d2, d3] => { results := [.lit (.bool false)], args := [d1, d2, d3] }
  | _ => none }
def MacStaysWrongFalsely : Prop := macStaysRow.holds Tryz.pinned (OpenSpec.ofChange macStaysWrong)

/-- 'hopmeshtop.TopRoutesLead': WHATEVER THE INPUT: true; the input reads as it did. -/
def topRoutesLeadSpec : ChangeSpec := { name := "topRoutesLead", fn := fun _ => fun
  | [d1, d2, d3, d4] => { results := [.lit (.bool true)], args := [d1, d2, d3, d4] }
  | _ => none }
def topRoutesLeadRow : OpenClaim := { program := "ytmhchaedhmnofaagreat", sum := "dfedf9da77e2ec2122210b5301fea4754e9b3a8cc9d0286b04e3d55daf2cdadd", func := "hopmesh/hopmeshtop.TopRoutesLead", spec := "topRoutesLead", inPlace := ["slices.overlaps[hopmesh/api.Neighbour]", "slices.overlaps[hopmesh/api.Report]"], unfollowed := true, recurses := true, apart := false }
def TopRoutesLeadSaid : Prop := topRoutesLeadRow.holds Tryz.pinned (OpenSpec.ofChange topRoutesLeadSpec)

/-- ITS FALSE NEIGHBOUR: 'it returns false'. Refute it at one input. -/
def topRoutesLeadWrong : ChangeSpec := { name := "topRoutesLead", fn := fun _ => fun
  | [d1, d2, d3, d4] => { results := [.lit (.bool false)], args := [d1, d2, d3, d4] }
  | _ => none }
def TopRoutesLeadWrongFalsely : Prop := topRoutesLeadRow.holds Tryz.pinned (OpenSpec.ofChange topRoutesLeadWrong)

/-- 'hopmeshtop.TopNoLoops': WHATEVER THE INPUT: true; the input reads as it did. -/
def topNoLoopsSpec : ChangeSpec := { name := "topNoLoops", fn := fun _ => fun
  | [d1, d2, d3] => { results := [.lit (.bool true)], args := [d1, d2, d3] }
  | _ => none }
def topNoLoopsRow : OpenClaim := { program := "ytmhchaedhmnofaagreat", sum := "dfedf9da77e2ec2122210b5301fea4754e9b3a8cc9d0286b04e3d55daf2cdadd", func := "hopmesh/hopmeshtop.TopNoLoops", spec := "topNoLoops", inPlace := ["slices.overlaps[hopmesh/api.Neighbour]"], unfollowed := true, recurses := true, apart := false }
def TopNoLoopsSaid : Prop := topNoLoopsRow.holds Tryz.pinned (OpenSpec.ofChange topNoLoopsSpec)

/-- ITS FALSE NEIGHBOUR: 'it returns false'. Refute it at one input. -/
def topNoLoopsWrong : ChangeSpec := { name := "topNoLoops", fn := fun _ => fun
  | [d1, d2, d3] => { results := [.lit (.bool false)], args := [d1, d2, d3] }
  | _ => none }
def TopNoLoopsWrongFalsely : Prop := topNoLoopsRow.holds Tryz.pinned (OpenSpec.ofChange topNoLoopsWrong)

/-- 'hopmeshlaw18.MacFlows': WHATEVER THE INPUT: true; the input reads as it did. -/
def macFlowsSpec : ChangeSpec := { name := "macFlows", fn := fun _ => fun
  | [d1, d2, d3, d4] => { results := [.lit (.bool true)], args := [d1, d2, d3, d4] }
  | _ => none }
def macFlowsRow : OpenClaim := { program := "ytmhchaedhmnofaagreat", sum := "dfedf9da77e2ec2122210b5301fea4754e9b3a8cc9d0286b04e3d55daf2cdadd", func := "hopmesh/hopmeshlaw18.MacFlows", spec := "macFlows", inPlace := ["slices.overlaps[hopmesh/api.Packet]", "slices.overlaps[int]", "slices.overlaps[hopmesh/api.Seen]", "slices.overlaps[hopmesh/api.Held]"], unfollowed := true, recurses := true, apart := false }
def MacFlowsSaid : Prop := macFlowsRow.holds Tryz.pinned (OpenSpec.ofChange macFlowsSpec)

/-- ITS FALSE NEIGHBOUR: 'it returns false'. Refute it at one input. -/
def macFlowsWrong : ChangeSpec := { name := "macFlows", fn := fun _ => fun
  | [d1, d2, d3, d4] => { results := [.lit (.bool false)], args := [d1, d2, d3, d4] }
  | _ => none }
def MacFlowsWrongFalsely : Prop := macFlowsRow.holds Tryz.pinned (OpenSpec.ofChange macFlowsWrong)

/-- 'hopmeshlaw18.MacChanges': WHATEVER THE INPUT: true; the input reads as it did. -/
def macChangesSpec : ChangeSpec := { name := "macChanges", fn := fun _ => fun
  | [d1, d2, d3, d4] => { results := [.lit (.bool true)], args := [d1, d2, d3, d4] }
  | _ => none }
def macChangesRow : OpenClaim := { program := "ytmhchaedhmnofaagreat", sum := "dfedf9da77e2ec2122210b5301fea4754e9b3a8cc9d0286b04e3d55daf2cdadd", func := "hopmesh/hopmeshlaw18.MacChanges", spec := "macChanges", inPlace := ["slices.overlaps[hopmesh/api.Packet]", "slices.overlaps[int]", "slices.overlaps[hopmesh/api.Seen]", "slices.overlaps[hopmesh/api.Held]"], unfollowed := true, recurses := true, apart := false }
def MacChangesSaid : Prop := macChangesRow.holds Tryz.pinned (OpenSpec.ofChange macChangesSpec)

/-- ITS FALSE NEIGHBOUR: 'it returns false'. Refute it at one input. -/
def macChangesWrong : ChangeSpec := { name := "macChanges", fn := fun _ => fun
  | [d1, d2, d3, d4] => { results := [.lit (.bool false)], args := [d1, d2, d3, d4] }
  | _ => none }
def MacChangesWrongFalsely : Prop := macChangesRow.holds Tryz.pinned (OpenSpec.ofChange macChangesWrong)

/-- 'hopmeshlaw30.MeshChecks': WHATEVER THE INPUT: true; the input reads as it did. -/
def meshChecksSpec : ChangeSpec := { name := "meshChecks", fn := fun _ => fun
  | [d1, d2, d3, d4, d5, d6] => { results := [.lit (.bool true)], args := [d1, d2, d3, d4, d5, d6] }
  | _ => none }
def meshChecksRow : OpenClaim := { program := "ytmhchaedhmnofaagreat", sum := "dfedf9da77e2ec2122210b5301fea4754e9b3a8cc9d0286b04e3d55daf2cdadd", func := "hopmesh/hopmeshlaw30.MeshChecks", spec := "meshChecks", inPlace := ["slices.overlaps[hopmesh/api.Packet]", "slices.overlaps[int]", "slices.overlaps[hopmesh/api.Seen]", "slices.overlaps[hopmesh/api.Neighbour]"], unfollowed := true, recurses := true, apart := false }
def MeshChecksSaid : Prop := meshChecksRow.holds Tryz.pinned (OpenSpec.ofChange meshChecksSpec)

/-- ITS FALSE NEIGHBOUR: 'it returns false'. Refute it at one input. -/
def meshChecksWrong : ChangeSpec := { name := "meshChecks", fn := fun _ => fun
  | [d1, d2, d3, d4, d5, d6] => { results := [.lit (.bool false)], args := [d1, d2, d3, d4, d5, d6] }
  | _ => none }
def MeshChecksWrongFalsely : Prop := meshChecksRow.holds Tryz.pinned (OpenSpec.ofChange meshChecksWrong)

/-- 'hopmeshlaw30.MeshRuns': WHATEVER THE INPUT: true; the input reads as it did. -/
def meshRunsSpec : ChangeSpec := { name := "meshRuns", fn := fun _ => fun
  | [d1, d2, d3, d4] => { results := [.lit (.bool true)], args := [d1, d2, d3, d4] }
  | _ => none }
def meshRunsRow : OpenClaim := { program := "ytmhchaedhmnofaagreat", sum := "dfedf9da77e2ec2122210b5301fea4754e9b3a8cc9d0286b04e3d55daf2cdadd", func := "hopmesh/hopmeshlaw30.MeshRuns", spec := "meshRuns", inPlace := ["slices.overlaps[hopmesh/api.Packet]", "slices.overlaps[int]", "slices.overlaps[hopmesh/api.Seen]", "slices.overlaps[hopmesh/api.Neighbour]"], unfollowed := true, recurses := true, apart := false }
def MeshRunsSaid : Prop := meshRunsRow.holds Tryz.pinned (OpenSpec.ofChange meshRunsSpec)

/-- ITS FALSE NEIGHBOUR: 'it returns false'. Refute it at one input. -/
def meshRunsWrong : ChangeSpec := { name := "meshRuns", fn := fun _ => fun
  | [d1, d2, d3, d4] => { results := [.lit (.bool false)], args := [d1, d2, d3, d4] }
  | _ => none }
def MeshRunsWrongFalsely : Prop := meshRunsRow.holds Tryz.pinned (OpenSpec.ofChange meshRunsWrong)

/-- 'hopmeshlaw30.MeshArrivals': WHATEVER THE INPUT: true; the input reads as it did. -/
def meshArrivalsSpec : ChangeSpec := { name := "meshArrivals", fn := fun _ => fun
  | [d1, d2, d3, d4, d5] => { results := [.lit (.bool true)], args := [d1, d2, d3, d4, d5] }
  | _ => none }
def meshArrivalsRow : OpenClaim := { program := "ytmhchaedhmnofaagreat", sum := "dfedf9da77e2ec2122210b5301fea4754e9b3a8cc9d0286b04e3d55daf2cdadd", func := "hopmesh/hopmeshlaw30.MeshArrivals", spec := "meshArrivals", inPlace := ["slices.overlaps[hopmesh/api.Packet]", "slices.overlaps[int]", "slices.overlaps[hopmesh/api.Seen]", "slices.overlaps[hopmesh/api.Neighbour]"], unfollowed := true, recurses := true, apart := false }
def MeshArrivalsSaid : Prop := meshArrivalsRow.holds Tryz.pinned (OpenSpec.ofChange meshArrivalsSpec)

/-- ITS FALSE NEIGHBOUR: 'it returns false'. Refute it at one input. -/
def meshArrivalsWrong : ChangeSpec := { name := "meshArrivals", fn := fun _ => fun
  | [d1, d2, d3, d4, d5] => { results := [.lit (.bool false)], args := [d1, d2, d3, d4, d5] }
  | _ => none }
def MeshArrivalsWrongFalsely : Prop := meshArrivalsRow.holds Tryz.pinned (OpenSpec.ofChange meshArrivalsWrong)

/-- 'hopmeshlaw30.MeshLine': WHATEVER THE INPUT: true; the input reads as it did. -/
def meshLineSpec : ChangeSpec := { name := "meshLine", fn := fun _ => fun
  | [d1, d2, d3] => { results := [.lit (.bool true)], args := [d1, d2, d3] }
  | _ => none }
def meshLineRow : OpenClaim := { program := "ytmhchaedhmnofaagreat", sum := "dfedf9da77e2ec2122210b5301fea4754e9b3a8cc9d0286b04e3d55daf2cdadd", func := "hopmesh/hopmeshlaw30.MeshLine", spec := "meshLine", inPlace := ["slices.overlaps[hopmesh/api.Packet]", "slices.overlaps[int]", "slices.overlaps[hopmesh/api.Seen]", "slices.overlaps[hopmesh/api.Neighbour]"], unfollowed := true, recurses := true, apart := false }
def MeshLineSaid : Prop := meshLineRow.holds Tryz.pinned (OpenSpec.ofChange meshLineSpec)

/-- ITS FALSE NEIGHBOUR: 'it returns false'. Refute it at one input. -/
def meshLineWrong : ChangeSpec := { name := "meshLine", fn := fun _ => fun
  | [d1, d2, d3] => { results := [.lit (.bool false)], args := [d1, d2, d3] }
  | _ => none }
def MeshLineWrongFalsely : Prop := meshLineRow.holds Tryz.pinned (OpenSpec.ofChange meshLineWrong)

/-- 'hopmeshlaw30.MeshSteps': WHATEVER THE INPUT: true; the input reads as it did. -/
def meshStepsSpec : ChangeSpec := { name := "meshSteps", fn := fun _ => fun
  | [d1, d2, d3] => { results := [.lit (.bool true)], args := [d1, d2, d3] }
  | _ => none }
def meshStepsRow : OpenClaim := { program := "ytmhchaedhmnofaagreat", sum := "dfedf9da77e2ec2122210b5301fea4754e9b3a8cc9d0286b04e3d55daf2cdadd", func := "hopmesh/hopmeshlaw30.MeshSteps", spec := "meshSteps", inPlace := ["slices.overlaps[hopmesh/api.Packet]", "slices.overlaps[int]", "slices.overlaps[hopmesh/api.Seen]", "slices.overlaps[hopmesh/api.Neighbour]"], unfollowed := true, recurses := true, apart := false }
def MeshStepsSaid : Prop := meshStepsRow.holds Tryz.pinned (OpenSpec.ofChange meshStepsSpec)

/-- ITS FALSE NEIGHBOUR: 'it returns false'. Refute it at one input. -/
def meshStepsWrong : ChangeSpec := { name := "meshSteps", fn := fun _ => fun
  | [d1, d2, d3] => { results := [.lit (.bool false)], args := [d1, d2, d3] }
  | _ => none }
def MeshStepsWrongFalsely : Prop := meshStepsRow.holds Tryz.pinned (OpenSpec.ofChange meshStepsWrong)

/-- 'hopmeshlaw30.MeshNoCycle': WHATEVER THE INPUT: true; the input reads as it did. -/
def meshNoCycleSpec : ChangeSpec := { name := "meshNoCycle", fn := fun _ => fun
  | [d1, d2, d3, d4, d5] => { results := [.lit (.bool true)], args := [d1, d2, d3, d4, d5] }
  | _ => none }
def meshNoCycleRow : OpenClaim := { program := "ytmhchaedhmnofaagreat", sum := "dfedf9da77e2ec2122210b5301fea4754e9b3a8cc9d0286b04e3d55daf2cdadd", func := "hopmesh/hopmeshlaw30.MeshNoCycle", spec := "meshNoCycle", inPlace := ["slices.overlaps[hopmesh/api.Packet]", "slices.overlaps[int]", "slices.overlaps[hopmesh/api.Seen]", "slices.overlaps[hopmesh/api.Neighbour]"], unfollowed := true, recurses := true, apart := false }
def MeshNoCycleSaid : Prop := meshNoCycleRow.holds Tryz.pinned (OpenSpec.ofChange meshNoCycleSpec)

/-- ITS FALSE NEIGHBOUR: 'it returns false'. Refute it at one input. -/
def meshNoCycleWrong : ChangeSpec := { name := "meshNoCycle", fn := fun _ => fun
  | [d1, d2, d3, d4, d5] => { results := [.lit (.bool false)], args := [d1, d2, d3, d4, d5] }
  | _ => none }
def MeshNoCycleWrongFalsely : Prop := meshNoCycleRow.holds Tryz.pinned (OpenSpec.ofChange meshNoCycleWrong)

/-- 'hopmeshlaw30.MeshParts': WHATEVER THE INPUT: true; the input reads as it did. -/
def meshPartsSpec : ChangeSpec := { name := "meshParts", fn := fun _ => fun
  | [d1, d2, d3, d4, d5] => { results := [.lit (.bool true)], args := [d1, d2, d3, d4, d5] }
  | _ => none }
def meshPartsRow : OpenClaim := { program := "ytmhchaedhmnofaagreat", sum := "dfedf9da77e2ec2122210b5301fea4754e9b3a8cc9d0286b04e3d55daf2cdadd", func := "hopmesh/hopmeshlaw30.MeshParts", spec := "meshParts", inPlace := ["slices.overlaps[hopmesh/api.Packet]", "slices.overlaps[int]", "slices.overlaps[hopmesh/api.Seen]", "slices.overlaps[hopmesh/api.Neighbour]"], unfollowed := true, recurses := true, apart := false }
def MeshPartsSaid : Prop := meshPartsRow.holds Tryz.pinned (OpenSpec.ofChange meshPartsSpec)

/-- ITS FALSE NEIGHBOUR: 'it returns false'. Refute it at one input. -/
def meshPartsWrong : ChangeSpec := { name := "meshParts", fn := fun _ => fun
  | [d1, d2, d3, d4, d5] => { results := [.lit (.bool false)], args := [d1, d2, d3, d4, d5] }
  | _ => none }
def MeshPartsWrongFalsely : Prop := meshPartsRow.holds Tryz.pinned (OpenSpec.ofChange meshPartsWrong)

/- THE SECOND FORM. 'bulk': how many values and letters a reading holds, each counted each time it is reached (what is shared counts as often as it is met; a slice's spare places count too). A statement '..UptoSaid' is the law's where the arguments, and the package variables that the reading takes, are together of bulk at most 1048576: NARROWER than '..Said'. Prove '..Said' where nothing that the law and all that it calls make is longer than what came in: it says more and counts as full. Else prove '..UptoSaid'. A law counts once. -/
mutual
def uptoBulk {H : Type} : DataW H → Nat
  | .lit (.string bytes) => bytes.length + 1
  | .lit _ => 1
  | .nil => 1
  | .ptr d => uptoBulk d + 1
  | .slice elems spare => uptoBulkAll elems + uptoBulkAll spare + 1
  | .agg parts => uptoBulkAll parts + 1
  | .iface _ d => uptoBulk d + 1
  | .map entries => uptoBulkEntries entries + 1
  | .held _ => 1
def uptoBulkAll {H : Type} : List (DataW H) → Nat
  | [] => 0
  | d :: r => uptoBulk d + uptoBulkAll r
def uptoBulkEntries {H : Type} : List (Lit × DataW H) → Nat
  | [] => 0
  | x :: r => uptoBulkEntry x + uptoBulkEntries r
def uptoBulkEntry {H : Type} : Lit × DataW H → Nat
  | (.string bytes, d) => bytes.length + uptoBulk d + 1
  | (_, d) => uptoBulk d + 1
 end
def uptoSmall : (H : Type) → List (DataW H) → Bool := fun _ ds => decide (uptoBulkAll ds ≤ 1048576)
def OpenSpec.upto (s : _root_.Go.ChangeSpec) : _root_.Go.OpenSpec := { _root_.Go.OpenSpec.ofChange s with cond := some uptoSmall }

/-- 'hopmeshlaw18.MacStations', WHERE WHAT IT READS IS OF BULK AT MOST 1048576: true; the input reads as it did. -/
def macStationsUptoRow : OpenClaim := { program := "ytmhchaedhmnofaagreat", sum := "dfedf9da77e2ec2122210b5301fea4754e9b3a8cc9d0286b04e3d55daf2cdadd", func := "hopmesh/hopmeshlaw18.MacStations", spec := "macStations", inPlace := ["slices.overlaps[hopmesh/api.Packet]", "slices.overlaps[int]", "slices.overlaps[hopmesh/api.Seen]"], unfollowed := true, recurses := true, apart := false, narrowed := true }
def MacStationsUptoSaid : Prop := macStationsUptoRow.holds Tryz.pinned (OpenSpec.upto macStationsSpec)

/-- 'hopmeshlaw18.MacActs', WHERE WHAT IT READS IS OF BULK AT MOST 1048576: true; the input reads as it did. -/
def macActsUptoRow : OpenClaim := { program := "ytmhchaedhmnofaagreat", sum := "dfedf9da77e2ec2122210b5301fea4754e9b3a8cc9d0286b04e3d55daf2cdadd", func := "hopmesh/hopmeshlaw18.MacActs", spec := "macActs", inPlace := ["slices.overlaps[hopmesh/api.Packet]", "slices.overlaps[int]", "slices.overlaps[hopmesh/api.Seen]"], unfollowed := true, recurses := true, apart := false, narrowed := true }
def MacActsUptoSaid : Prop := macActsUptoRow.holds Tryz.pinned (OpenSpec.upto macActsSpec)

/-- 'hopmeshlaw18.MacDone', WHERE WHAT IT READS IS OF BULK AT MOST 1048576: true; the input reads as it did. -/
def macDoneUptoRow : OpenClaim := { program := "ytmhchaedhmnofaagreat", sum := "dfedf9da77e2ec2122210b5301fea4754e9b3a8cc9d0286b04e3d55daf2cdadd", func := "hopmesh/hopmeshlaw18.MacDone", spec := "macDone", inPlace := ["slices.overlaps[hopmesh/api.Packet]", "slices.overlaps[int]", "slices.overlaps[hopmesh/api.Seen]"], unfollowed := true, recurses := true, apart := false, narrowed := true }
def MacDoneUptoSaid : Prop := macDoneUptoRow.holds Tryz.pinned (OpenSpec.upto macDoneSpec)

/-- 'hopmeshlaw18.MacStays', WHERE WHAT IT READS IS OF BULK AT MOST 1048576: true; the input reads as it did. -/
def macStaysUptoRow : OpenClaim := { program := "ytmhchaedhmnofaagreat", sum := "dfedf9da77e2ec2122210b5301fea4754e9b3a8cc9d0286b04e3d55daf2cdadd", func := "hopmesh/hopmeshlaw18.MacStays", spec := "macStays", inPlace := ["slices.overlaps[hopmesh/api.Packet]", "slices.overlaps[int]", "slices.overlaps[hopmesh/api.Seen]"], unfollowed := true, recurses := true, apart := false, narrowed := true }
def MacStaysUptoSaid : Prop := macStaysUptoRow.holds Tryz.pinned (OpenSpec.upto macStaysSpec)

/-- 'hopmeshtop.TopRoutesLead', WHERE WHAT IT READS IS OF BULK AT MOST 1048576: true; the input reads as it did. -/
def topRoutesLeadUptoRow : OpenClaim := { program := "ytmhchaedhmnofaagreat", sum := "dfedf9da77e2ec2122210b5301fea4754e9b3a8cc9d0286b04e3d55daf2cdadd", func := "hopmesh/hopmeshtop.TopRoutesLead", spec := "topRoutesLead", inPlace := ["slices.overlaps[hopmesh/api.Neighbour]", "slices.overlaps[hopmesh/api.Report]"], unfollowed := true, recurses := true, apart := false, narrowed := true }
def TopRoutesLeadUptoSaid : Prop := topRoutesLeadUptoRow.holds Tryz.pinned (OpenSpec.upto topRoutesLeadSpec)

/-- 'hopmeshtop.TopNoLoops', WHERE WHAT IT READS IS OF BULK AT MOST 1048576: true; the input reads as it did. -/
def topNoLoopsUptoRow : OpenClaim := { program := "ytmhchaedhmnofaagreat", sum := "dfedf9da77e2ec2122210b5301fea4754e9b3a8cc9d0286b04e3d55daf2cdadd", func := "hopmesh/hopmeshtop.TopNoLoops", spec := "topNoLoops", inPlace := ["slices.overlaps[hopmesh/api.Neighbour]"], unfollowed := true, recurses := true, apart := false, narrowed := true }
def TopNoLoopsUptoSaid : Prop := topNoLoopsUptoRow.holds Tryz.pinned (OpenSpec.upto topNoLoopsSpec)

/-- 'hopmeshlaw18.MacFlows', WHERE WHAT IT READS IS OF BULK AT MOST 1048576: true; the input reads as it did. -/
def macFlowsUptoRow : OpenClaim := { program := "ytmhchaedhmnofaagreat", sum := "dfedf9da77e2ec2122210b5301fea4754e9b3a8cc9d0286b04e3d55daf2cdadd", func := "hopmesh/hopmeshlaw18.MacFlows", spec := "macFlows", inPlace := ["slices.overlaps[hopmesh/api.Packet]", "slices.overlaps[int]", "slices.overlaps[hopmesh/api.Seen]", "slices.overlaps[hopmesh/api.Held]"], unfollowed := true, recurses := true, apart := false, narrowed := true }
def MacFlowsUptoSaid : Prop := macFlowsUptoRow.holds Tryz.pinned (OpenSpec.upto macFlowsSpec)

/-- 'hopmeshlaw18.MacChanges', WHERE WHAT IT READS IS OF BULK AT MOST 1048576: true; the input reads as it did. -/
def macChangesUptoRow : OpenClaim := { program := "ytmhchaedhmnofaagreat", sum := "dfedf9da77e2ec2122210b5301fea4754e9b3a8cc9d0286b04e3d55daf2cdadd", func := "hopmesh/hopmeshlaw18.MacChanges", spec := "macChanges", inPlace := ["slices.overlaps[hopmesh/api.Packet]", "slices.overlaps[int]", "slices.overlaps[hopmesh/api.Seen]", "slices.overlaps[hopmesh/api.Held]"], unfollowed := true, recurses := true, apart := false, narrowed := true }
def MacChangesUptoSaid : Prop := macChangesUptoRow.holds Tryz.pinned (OpenSpec.upto macChangesSpec)

/-- 'hopmeshlaw30.MeshChecks', WHERE WHAT IT READS IS OF BULK AT MOST 1048576: true; the input reads as it did. -/
def meshChecksUptoRow : OpenClaim := { program := "ytmhchaedhmnofaagreat", sum := "dfedf9da77e2ec2122210b5301fea4754e9b3a8cc9d0286b04e3d55daf2cdadd", func := "hopmesh/hopmeshlaw30.MeshChecks", spec := "meshChecks", inPlace := ["slices.overlaps[hopmesh/api.Packet]", "slices.overlaps[int]", "slices.overlaps[hopmesh/api.Seen]", "slices.overlaps[hopmesh/api.Neighbour]"], unfollowed := true, recurses := true, apart := false, narrowed := true }
def MeshChecksUptoSaid : Prop := meshChecksUptoRow.holds Tryz.pinned (OpenSpec.upto meshChecksSpec)

/-- 'hopmeshlaw30.MeshRuns', WHERE WHAT IT READS IS OF BULK AT MOST 1048576: true; the input reads as it did. -/
def meshRunsUptoRow : OpenClaim := { program := "ytmhchaedhmnofaagreat", sum := "dfedf9da77e2ec2122210b5301fea4754e9b3a8cc9d0286b04e3d55daf2cdadd", func := "hopmesh/hopmeshlaw30.MeshRuns", spec := "meshRuns", inPlace := ["slices.overlaps[hopmesh/api.Packet]", "slices.overlaps[int]", "slices.overlaps[hopmesh/api.Seen]", "slices.overlaps[hopmesh/api.Neighbour]"], unfollowed := true, recurses := true, apart := false, narrowed := true }
def MeshRunsUptoSaid : Prop := meshRunsUptoRow.holds Tryz.pinned (OpenSpec.upto meshRunsSpec)

/-- 'hopmeshlaw30.MeshArrivals', WHERE WHAT IT READS IS OF BULK AT MOST 1048576: true; the input reads as it did. -/
def meshArrivalsUptoRow : OpenClaim := { program := "ytmhchaedhmnofaagreat", sum := "dfedf9da77e2ec2122210b5301fea4754e9b3a8cc9d0286b04e3d55daf2cdadd", func := "hopmesh/hopmeshlaw30.MeshArrivals", spec := "meshArrivals", inPlace := ["slices.overlaps[hopmesh/api.Packet]", "slices.overlaps[int]", "slices.overlaps[hopmesh/api.Seen]", "slices.overlaps[hopmesh/api.Neighbour]"], unfollowed := true, recurses := true, apart := false, narrowed := true }
def MeshArrivalsUptoSaid : Prop := meshArrivalsUptoRow.holds Tryz.pinned (OpenSpec.upto meshArrivalsSpec)

/-- 'hopmeshlaw30.MeshLine', WHERE WHAT IT READS IS OF BULK AT MOST 1048576: true; the input reads as it did. -/
def meshLineUptoRow : OpenClaim := { program := "ytmhchaedhmnofaagreat", sum := "dfedf9da77e2ec2122210b5301fea4754e9b3a8cc9d0286b04e3d55daf2cdadd", func := "hopmesh/hopmeshlaw30.MeshLine", spec := "meshLine", inPlace := ["slices.overlaps[hopmesh/api.Packet]", "slices.overlaps[int]", "slices.overlaps[hopmesh/api.Seen]", "slices.overlaps[hopmesh/api.Neighbour]"], unfollowed := true, recurses := true, apart := false, narrowed := true }
def MeshLineUptoSaid : Prop := meshLineUptoRow.holds Tryz.pinned (OpenSpec.upto meshLineSpec)

/-- 'hopmeshlaw30.MeshSteps', WHERE WHAT IT READS IS OF BULK AT MOST 1048576: true; the input reads as it did. -/
def meshStepsUptoRow : OpenClaim := { program := "ytmhchaedhmnofaagreat", sum := "dfedf9da77e2ec2122210b5301fea4754e9b3a8cc9d0286b04e3d55daf2cdadd", func := "hopmesh/hopmeshlaw30.MeshSteps", spec := "meshSteps", inPlace := ["slices.overlaps[hopmesh/api.Packet]", "slices.overlaps[int]", "slices.overlaps[hopmesh/api.Seen]", "slices.overlaps[hopmesh/api.Neighbour]"], unfollowed := true, recurses := true, apart := false, narrowed := true }
def MeshStepsUptoSaid : Prop := meshStepsUptoRow.holds Tryz.pinned (OpenSpec.upto meshStepsSpec)

/-- 'hopmeshlaw30.MeshNoCycle', WHERE WHAT IT READS IS OF BULK AT MOST 1048576: true; the input reads as it did. -/
def meshNoCycleUptoRow : OpenClaim := { program := "ytmhchaedhmnofaagreat", sum := "dfedf9da77e2ec2122210b5301fea4754e9b3a8cc9d0286b04e3d55daf2cdadd", func := "hopmesh/hopmeshlaw30.MeshNoCycle", spec := "meshNoCycle", inPlace := ["slices.overlaps[hopmesh/api.Packet]", "slices.overlaps[int]", "slices.overlaps[hopmesh/api.Seen]", "slices.overlaps[hopmesh/api.Neighbour]"], unfollowed := true, recurses := true, apart := false, narrowed := true }
def MeshNoCycleUptoSaid : Prop := meshNoCycleUptoRow.holds Tryz.pinned (OpenSpec.upto meshNoCycleSpec)

/-- 'hopmeshlaw30.MeshParts', WHERE WHAT IT READS IS OF BULK AT MOST 1048576: true; the input reads as it did. -/
def meshPartsUptoRow : OpenClaim := { program := "ytmhchaedhmnofaagreat", sum := "dfedf9da77e2ec2122210b5301fea4754e9b3a8cc9d0286b04e3d55daf2cdadd", func := "hopmesh/hopmeshlaw30.MeshParts", spec := "meshParts", inPlace := ["slices.overlaps[hopmesh/api.Packet]", "slices.overlaps[int]", "slices.overlaps[hopmesh/api.Seen]", "slices.overlaps[hopmesh/api.Neighbour]"], unfollowed := true, recurses := true, apart := false, narrowed := true }
def MeshPartsUptoSaid : Prop := meshPartsUptoRow.holds Tryz.pinned (OpenSpec.upto meshPartsSpec)

end Rows
end Go.Proofs.YtmhchaedhmnofaaGreat
