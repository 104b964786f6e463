/-
  No cell of these rows narrows 'for every input' (looked for: loops, veiled, ifaces, maps, wideKeys, modest, calm, conditions, laid).
  DERIVED. THE GIVEN ROWS OF THIS SEAT. 17 by the template 'for every input the law returns true; each argument reads behind the call as it read before'; 0 by the template 'total and deterministic' (their statements: YtiamkdpljeemkaaTotals.lean).
  GIVEN WITH THE SEED: the statements are not yours to turn. If you find one false, say at which input.
  Laid BY PROGRAM, IN A SANDBOX (cutbox-rows.mjs): the forced cells as the released guide's own fill.sh prints them over the translation 4cea7e2bd9b1462c… (all of the seat's roots in one cut). By AI agents, Wed Nov 11 2026. No macro, syntax, notation, axiom, sorry.
-/
import Derived.Test.YtiamkdpljeemkaaChecked
import GoSem.Claim
import GoSem.ClaimJoined
import GoSem.ClaimMapViews
import Derived.JoinedTies
import Derived.KernelRfl
namespace Go.Proofs.Ytiamkdpljeemkaa
/- THE CELL 'sum', in the pinned program and in every row, IS THE sha256 OF THE DUMP (.gsa) THAT YtiamkdpljeemkaaProg.lean LOADS. Nothing in Lean hashes anything: it is a label: what it is worth is what the hold of that sum in a sandbox is worth. -/
noncomputable def Try.pinned : Pinned := { name := "ytiamkdpljeemkaa", sum := "4cea7e2bd9b1462cb811da39b786ab24fb98551ec6fd2e1174a4e0c92876e276", checked := Try.checked }
namespace Rows
def none {H : Type} : Left H := { results := [], args := [] }

/-- 'faultlinelaw15.DiagramValues': WHATEVER THE INPUT: true; the input reads as it did. -/
def diagramValuesSpec : ChangeSpec := { name := "diagramValues", fn := fun _ => fun
  | [d1, d2, d3] => { results := [.lit (.bool true)], args := [d1, d2, d3] }
  | _ => none }
def diagramValuesRow : OpenClaim := { program := "ytiamkdpljeemkaa", sum := "4cea7e2bd9b1462cb811da39b786ab24fb98551ec6fd2e1174a4e0c92876e276", func := "faultline/faultlinelaw15.DiagramValues", spec := "diagramValues", unfollowed := true, recurses := true, plainKeys := false, apart := false }
def DiagramValuesSaid : Prop := diagramValuesRow.holds Try.pinned (OpenSpec.ofChange diagramValuesSpec)

/-- ITS FALSE NEIGHBOUR: 'it returns false'. Refute it at one input. -/
def diagramValuesWrong : ChangeSpec := { name := "diagramValues", fn := fun _ => fun
  | [d1, d2, d3] => { results := [.lit (.bool false)], args := [d1, d2, d3] }
  | _ => none }
def DiagramValuesWrongFalsely : Prop := diagramValuesRow.holds Try.pinned (OpenSpec.ofChange diagramValuesWrong)

/-- 'faultlinelaw15.DiagramEqual': WHATEVER THE INPUT: true; the input reads as it did. -/
def diagramEqualSpec : ChangeSpec := { name := "diagramEqual", fn := fun _ => fun
  | [d1, d2, d3] => { results := [.lit (.bool true)], args := [d1, d2, d3] }
  | _ => none }
def diagramEqualRow : OpenClaim := { program := "ytiamkdpljeemkaa", sum := "4cea7e2bd9b1462cb811da39b786ab24fb98551ec6fd2e1174a4e0c92876e276", func := "faultline/faultlinelaw15.DiagramEqual", spec := "diagramEqual", unfollowed := true, recurses := true, plainKeys := false, apart := false }
def DiagramEqualSaid : Prop := diagramEqualRow.holds Try.pinned (OpenSpec.ofChange diagramEqualSpec)

/-- ITS FALSE NEIGHBOUR: 'it returns false'. Refute it at one input. -/
def diagramEqualWrong : ChangeSpec := { name := "diagramEqual", fn := fun _ => fun
  | [d1, d2, d3] => { results := [.lit (.bool false)], args := [d1, d2, d3] }
  | _ => none }
def DiagramEqualWrongFalsely : Prop := diagramEqualRow.holds Try.pinned (OpenSpec.ofChange diagramEqualWrong)

/-- 'faultlinelaw15.DiagramDepends': WHATEVER THE INPUT: true; the input reads as it did. -/
def diagramDependsSpec : ChangeSpec := { name := "diagramDepends", fn := fun _ => fun
  | [d1, d2] => { results := [.lit (.bool true)], args := [d1, d2] }
  | _ => none }
def diagramDependsRow : OpenClaim := { program := "ytiamkdpljeemkaa", sum := "4cea7e2bd9b1462cb811da39b786ab24fb98551ec6fd2e1174a4e0c92876e276", func := "faultline/faultlinelaw15.DiagramDepends", spec := "diagramDepends", unfollowed := true, recurses := true, plainKeys := false, apart := false }
def DiagramDependsSaid : Prop := diagramDependsRow.holds Try.pinned (OpenSpec.ofChange diagramDependsSpec)

/-- ITS FALSE NEIGHBOUR: 'it returns false'. Refute it at one input. -/
def diagramDependsWrong : ChangeSpec := { name := "diagramDepends", fn := fun _ => fun
  | [d1, d2] => { results := [.lit (.bool false)], args := [d1, d2] }
  | _ => none }
def DiagramDependsWrongFalsely : Prop := diagramDependsRow.holds Try.pinned (OpenSpec.ofChange diagramDependsWrong)

/-- 'faultlinelaw17.SiftingSifts': WHATEVER THE INPUT: true; the input reads as it did. -/
def siftingSiftsSpec : ChangeSpec := { name := "siftingSifts", fn := fun _ => fun
  | [d] => { results := [.lit (.bool true)], args := [d] }
  | _ => none }
def siftingSiftsRow : OpenClaim := { program := "ytiamkdpljeemkaa", sum := "4cea7e2bd9b1462cb811da39b786ab24fb98551ec6fd2e1174a4e0c92876e276", func := "faultline/faultlinelaw17.SiftingSifts", spec := "siftingSifts", inPlace := ["slices.overlaps[int]"], unfollowed := true, recurses := true, plainKeys := false, apart := false }
def SiftingSiftsSaid : Prop := siftingSiftsRow.holds Try.pinned (OpenSpec.ofChange siftingSiftsSpec)

/-- ITS FALSE NEIGHBOUR: 'it returns false'. Refute it at one input. -/
def siftingSiftsWrong : ChangeSpec := { name := "siftingSifts", fn := fun _ => fun
  | [d] => { results := [.lit (.bool false)], args := [d] }
  | _ => none }
def SiftingSiftsWrongFalsely : Prop := siftingSiftsRow.holds Try.pinned (OpenSpec.ofChange siftingSiftsWrong)

/-- 'faultlinelaw17.SiftingBest': WHATEVER THE INPUT: true; the input reads as it did. -/
def siftingBestSpec : ChangeSpec := { name := "siftingBest", fn := fun _ => fun
  | [d] => { results := [.lit (.bool true)], args := [d] }
  | _ => none }
def siftingBestRow : OpenClaim := { program := "ytiamkdpljeemkaa", sum := "4cea7e2bd9b1462cb811da39b786ab24fb98551ec6fd2e1174a4e0c92876e276", func := "faultline/faultlinelaw17.SiftingBest", spec := "siftingBest", inPlace := ["slices.overlaps[int]"], unfollowed := true, recurses := true, plainKeys := false, apart := false }
def SiftingBestSaid : Prop := siftingBestRow.holds Try.pinned (OpenSpec.ofChange siftingBestSpec)

/-- ITS FALSE NEIGHBOUR: 'it returns false'. Refute it at one input. -/
def siftingBestWrong : ChangeSpec := { name := "siftingBest", fn := fun _ => fun
  | [d] => { results := [.lit (.bool false)], args := [d] }
  | _ => none }
def SiftingBestWrongFalsely : Prop := siftingBestRow.holds Try.pinned (OpenSpec.ofChange siftingBestWrong)

/-- 'faultlinelaw17.SiftingReorders': WHATEVER THE INPUT: true; the input reads as it did. -/
def siftingReordersSpec : ChangeSpec := { name := "siftingReorders", fn := fun _ => fun
  | [d1, d2] => { results := [.lit (.bool true)], args := [d1, d2] }
  | _ => none }
def siftingReordersRow : OpenClaim := { program := "ytiamkdpljeemkaa", sum := "4cea7e2bd9b1462cb811da39b786ab24fb98551ec6fd2e1174a4e0c92876e276", func := "faultline/faultlinelaw17.SiftingReorders", spec := "siftingReorders", inPlace := ["slices.overlaps[int]"], unfollowed := true, recurses := true, plainKeys := false, apart := false }
def SiftingReordersSaid : Prop := siftingReordersRow.holds Try.pinned (OpenSpec.ofChange siftingReordersSpec)

/-- ITS FALSE NEIGHBOUR: 'it returns false'. Refute it at one input. -/
def siftingReordersWrong : ChangeSpec := { name := "siftingReorders", fn := fun _ => fun
  | [d1, d2] => { results := [.lit (.bool false)], args := [d1, d2] }
  | _ => none }
def SiftingReordersWrongFalsely : Prop := siftingReordersRow.holds Try.pinned (OpenSpec.ofChange siftingReordersWrong)

/-- 'faultlinelaw17.SiftingLess': WHATEVER THE INPUT: true; the input reads as it did. -/
def siftingLessSpec : ChangeSpec := { name := "siftingLess", fn := fun _ => fun
  | [d1, d2] => { results := [.lit (.bool true)], args := [d1, d2] }
  | _ => none }
def siftingLessRow : OpenClaim := { program := "ytiamkdpljeemkaa", sum := "4cea7e2bd9b1462cb811da39b786ab24fb98551ec6fd2e1174a4e0c92876e276", func := "faultline/faultlinelaw17.SiftingLess", spec := "siftingLess", inPlace := ["slices.overlaps[int]"], unfollowed := true, recurses := true, plainKeys := false, apart := false }
def SiftingLessSaid : Prop := siftingLessRow.holds Try.pinned (OpenSpec.ofChange siftingLessSpec)

/-- ITS FALSE NEIGHBOUR: 'it returns false'. Refute it at one input. -/
def siftingLessWrong : ChangeSpec := { name := "siftingLess", fn := fun _ => fun
  | [d1, d2] => { results := [.lit (.bool false)], args := [d1, d2] }
  | _ => none }
def SiftingLessWrongFalsely : Prop := siftingLessRow.holds Try.pinned (OpenSpec.ofChange siftingLessWrong)

/-- 'faultlinelaw14.OrderMetric': WHATEVER THE INPUT: true; the input reads as it did. -/
def orderMetricSpec : ChangeSpec := { name := "orderMetric", fn := fun _ => fun
  | [d1, d2, d3] => { results := [.lit (.bool true)], args := [d1, d2, d3] }
  | _ => none }
def orderMetricRow : OpenClaim := { program := "ytiamkdpljeemkaa", sum := "4cea7e2bd9b1462cb811da39b786ab24fb98551ec6fd2e1174a4e0c92876e276", func := "faultline/faultlinelaw14.OrderMetric", spec := "orderMetric", unfollowed := true, recurses := true, plainKeys := false, apart := false }
def OrderMetricSaid : Prop := orderMetricRow.holds Try.pinned (OpenSpec.ofChange orderMetricSpec)

/-- ITS FALSE NEIGHBOUR: 'it returns false'. Refute it at one input. -/
def orderMetricWrong : ChangeSpec := { name := "orderMetric", fn := fun _ => fun
  | [d1, d2, d3] => { results := [.lit (.bool false)], args := [d1, d2, d3] }
  | _ => none }
def OrderMetricWrongFalsely : Prop := orderMetricRow.holds Try.pinned (OpenSpec.ofChange orderMetricWrong)

/-- 'faultlinelaw14.OrderChecks': WHATEVER THE INPUT: true; the input reads as it did. -/
def orderChecksSpec : ChangeSpec := { name := "orderChecks", fn := fun _ => fun
  | [d1, d2] => { results := [.lit (.bool true)], args := [d1, d2] }
  | _ => none }
def orderChecksRow : OpenClaim := { program := "ytiamkdpljeemkaa", sum := "4cea7e2bd9b1462cb811da39b786ab24fb98551ec6fd2e1174a4e0c92876e276", func := "faultline/faultlinelaw14.OrderChecks", spec := "orderChecks", unfollowed := true, recurses := true, plainKeys := false, apart := false }
def OrderChecksSaid : Prop := orderChecksRow.holds Try.pinned (OpenSpec.ofChange orderChecksSpec)

/-- ITS FALSE NEIGHBOUR: 'it returns false'. Refute it at one input. -/
def orderChecksWrong : ChangeSpec := { name := "orderChecks", fn := fun _ => fun
  | [d1, d2] => { results := [.lit (.bool false)], args := [d1, d2] }
  | _ => none }
def OrderChecksWrongFalsely : Prop := orderChecksRow.holds Try.pinned (OpenSpec.ofChange orderChecksWrong)

/-- 'faultlinelaw14.OrderInverts': WHATEVER THE INPUT: true; the input reads as it did. -/
def orderInvertsSpec : ChangeSpec := { name := "orderInverts", fn := fun _ => fun
  | [d] => { results := [.lit (.bool true)], args := [d] }
  | _ => none }
def orderInvertsRow : OpenClaim := { program := "ytiamkdpljeemkaa", sum := "4cea7e2bd9b1462cb811da39b786ab24fb98551ec6fd2e1174a4e0c92876e276", func := "faultline/faultlinelaw14.OrderInverts", spec := "orderInverts", unfollowed := true, recurses := true, plainKeys := false, apart := false }
def OrderInvertsSaid : Prop := orderInvertsRow.holds Try.pinned (OpenSpec.ofChange orderInvertsSpec)

/-- ITS FALSE NEIGHBOUR: 'it returns false'. Refute it at one input. -/
def orderInvertsWrong : ChangeSpec := { name := "orderInverts", fn := fun _ => fun
  | [d] => { results := [.lit (.bool false)], args := [d] }
  | _ => none }
def OrderInvertsWrongFalsely : Prop := orderInvertsRow.holds Try.pinned (OpenSpec.ofChange orderInvertsWrong)

/-- 'faultlinelaw14.OrderExchanges': WHATEVER THE INPUT: true; the input reads as it did. -/
def orderExchangesSpec : ChangeSpec := { name := "orderExchanges", fn := fun _ => fun
  | [d1, d2, d3] => { results := [.lit (.bool true)], args := [d1, d2, d3] }
  | _ => none }
def orderExchangesRow : OpenClaim := { program := "ytiamkdpljeemkaa", sum := "4cea7e2bd9b1462cb811da39b786ab24fb98551ec6fd2e1174a4e0c92876e276", func := "faultline/faultlinelaw14.OrderExchanges", spec := "orderExchanges", unfollowed := true, recurses := true, plainKeys := false, apart := false }
def OrderExchangesSaid : Prop := orderExchangesRow.holds Try.pinned (OpenSpec.ofChange orderExchangesSpec)

/-- ITS FALSE NEIGHBOUR: 'it returns false'. Refute it at one input. -/
def orderExchangesWrong : ChangeSpec := { name := "orderExchanges", fn := fun _ => fun
  | [d1, d2, d3] => { results := [.lit (.bool false)], args := [d1, d2, d3] }
  | _ => none }
def OrderExchangesWrongFalsely : Prop := orderExchangesRow.holds Try.pinned (OpenSpec.ofChange orderExchangesWrong)

/-- 'faultlinelaw14.OrderPairs': WHATEVER THE INPUT: true; the input reads as it did. -/
def orderPairsSpec : ChangeSpec := { name := "orderPairs", fn := fun _ => fun
  | [d1, d2, d3] => { results := [.lit (.bool true)], args := [d1, d2, d3] }
  | _ => none }
def orderPairsRow : OpenClaim := { program := "ytiamkdpljeemkaa", sum := "4cea7e2bd9b1462cb811da39b786ab24fb98551ec6fd2e1174a4e0c92876e276", func := "faultline/faultlinelaw14.OrderPairs", spec := "orderPairs", unfollowed := true, recurses := true, plainKeys := false, apart := false }
def OrderPairsSaid : Prop := orderPairsRow.holds Try.pinned (OpenSpec.ofChange orderPairsSpec)

/-- ITS FALSE NEIGHBOUR: 'it returns false'. Refute it at one input. -/
def orderPairsWrong : ChangeSpec := { name := "orderPairs", fn := fun _ => fun
  | [d1, d2, d3] => { results := [.lit (.bool false)], args := [d1, d2, d3] }
  | _ => none }
def OrderPairsWrongFalsely : Prop := orderPairsRow.holds Try.pinned (OpenSpec.ofChange orderPairsWrong)

/-- 'faultlinelaw17.SiftingMoves': WHATEVER THE INPUT: true; the input reads as it did. -/
def siftingMovesSpec : ChangeSpec := { name := "siftingMoves", fn := fun _ => fun
  | [d1, d2, d3] => { results := [.lit (.bool true)], args := [d1, d2, d3] }
  | _ => none }
def siftingMovesRow : OpenClaim := { program := "ytiamkdpljeemkaa", sum := "4cea7e2bd9b1462cb811da39b786ab24fb98551ec6fd2e1174a4e0c92876e276", func := "faultline/faultlinelaw17.SiftingMoves", spec := "siftingMoves", inPlace := ["slices.overlaps[int]"], unfollowed := true, recurses := true, plainKeys := false, apart := false }
def SiftingMovesSaid : Prop := siftingMovesRow.holds Try.pinned (OpenSpec.ofChange siftingMovesSpec)

/-- ITS FALSE NEIGHBOUR: 'it returns false'. Refute it at one input. -/
def siftingMovesWrong : ChangeSpec := { name := "siftingMoves", fn := fun _ => fun
  | [d1, d2, d3] => { results := [.lit (.bool false)], args := [d1, d2, d3] }
  | _ => none }
def SiftingMovesWrongFalsely : Prop := siftingMovesRow.holds Try.pinned (OpenSpec.ofChange siftingMovesWrong)

/-- 'faultlinelaw17.SiftingBack': WHATEVER THE INPUT: true; the input reads as it did. -/
def siftingBackSpec : ChangeSpec := { name := "siftingBack", fn := fun _ => fun
  | [d1, d2, d3] => { results := [.lit (.bool true)], args := [d1, d2, d3] }
  | _ => none }
def siftingBackRow : OpenClaim := { program := "ytiamkdpljeemkaa", sum := "4cea7e2bd9b1462cb811da39b786ab24fb98551ec6fd2e1174a4e0c92876e276", func := "faultline/faultlinelaw17.SiftingBack", spec := "siftingBack", inPlace := ["slices.overlaps[int]"], unfollowed := true, recurses := true, plainKeys := false, apart := false }
def SiftingBackSaid : Prop := siftingBackRow.holds Try.pinned (OpenSpec.ofChange siftingBackSpec)

/-- ITS FALSE NEIGHBOUR: 'it returns false'. Refute it at one input. -/
def siftingBackWrong : ChangeSpec := { name := "siftingBack", fn := fun _ => fun
  | [d1, d2, d3] => { results := [.lit (.bool false)], args := [d1, d2, d3] }
  | _ => none }
def SiftingBackWrongFalsely : Prop := siftingBackRow.holds Try.pinned (OpenSpec.ofChange siftingBackWrong)

/-- 'faultlinelaw17.SiftingKeeps': WHATEVER THE INPUT: true; the input reads as it did. -/
def siftingKeepsSpec : ChangeSpec := { name := "siftingKeeps", fn := fun _ => fun
  | [d1, d2, d3] => { results := [.lit (.bool true)], args := [d1, d2, d3] }
  | _ => none }
def siftingKeepsRow : OpenClaim := { program := "ytiamkdpljeemkaa", sum := "4cea7e2bd9b1462cb811da39b786ab24fb98551ec6fd2e1174a4e0c92876e276", func := "faultline/faultlinelaw17.SiftingKeeps", spec := "siftingKeeps", inPlace := ["slices.overlaps[int]"], unfollowed := true, recurses := true, plainKeys := false, apart := false }
def SiftingKeepsSaid : Prop := siftingKeepsRow.holds Try.pinned (OpenSpec.ofChange siftingKeepsSpec)

/-- ITS FALSE NEIGHBOUR: 'it returns false'. Refute it at one input. -/
def siftingKeepsWrong : ChangeSpec := { name := "siftingKeeps", fn := fun _ => fun
  | [d1, d2, d3] => { results := [.lit (.bool false)], args := [d1, d2, d3] }
  | _ => none }
def SiftingKeepsWrongFalsely : Prop := siftingKeepsRow.holds Try.pinned (OpenSpec.ofChange siftingKeepsWrong)

/-- 'faultlinelaw14.OrderReturns': WHATEVER THE INPUT: true; the input reads as it did. -/
def orderReturnsSpec : ChangeSpec := { name := "orderReturns", fn := fun _ => fun
  | [d] => { results := [.lit (.bool true)], args := [d] }
  | _ => none }
def orderReturnsRow : OpenClaim := { program := "ytiamkdpljeemkaa", sum := "4cea7e2bd9b1462cb811da39b786ab24fb98551ec6fd2e1174a4e0c92876e276", func := "faultline/faultlinelaw14.OrderReturns", spec := "orderReturns", unfollowed := true, recurses := true, plainKeys := false, apart := false }
def OrderReturnsSaid : Prop := orderReturnsRow.holds Try.pinned (OpenSpec.ofChange orderReturnsSpec)

/-- ITS FALSE NEIGHBOUR: 'it returns false'. Refute it at one input. -/
def orderReturnsWrong : ChangeSpec := { name := "orderReturns", fn := fun _ => fun
  | [d] => { results := [.lit (.bool false)], args := [d] }
  | _ => none }
def OrderReturnsWrongFalsely : Prop := orderReturnsRow.holds Try.pinned (OpenSpec.ofChange orderReturnsWrong)

/-- 'faultlinelaw17.SiftingBuilds': WHATEVER THE INPUT: true; the input reads as it did. -/
def siftingBuildsSpec : ChangeSpec := { name := "siftingBuilds", fn := fun _ => fun
  | [d1, d2, d3] => { results := [.lit (.bool true)], args := [d1, d2, d3] }
  | _ => none }
def siftingBuildsRow : OpenClaim := { program := "ytiamkdpljeemkaa", sum := "4cea7e2bd9b1462cb811da39b786ab24fb98551ec6fd2e1174a4e0c92876e276", func := "faultline/faultlinelaw17.SiftingBuilds", spec := "siftingBuilds", inPlace := ["slices.overlaps[int]"], unfollowed := true, recurses := true, plainKeys := false, apart := false }
def SiftingBuildsSaid : Prop := siftingBuildsRow.holds Try.pinned (OpenSpec.ofChange siftingBuildsSpec)

/-- ITS FALSE NEIGHBOUR: 'it returns false'. Refute it at one input. -/
def siftingBuildsWrong : ChangeSpec := { name := "siftingBuilds", fn := fun _ => fun
  | [d1, d2, d3] => { results := [.lit (.bool false)], args := [d1, d2, d3] }
  | _ => none }
def SiftingBuildsWrongFalsely : Prop := siftingBuildsRow.holds Try.pinned (OpenSpec.ofChange siftingBuildsWrong)

/- THE SECOND FORM. 'bulk': how many values and letters a reading holds, each counted each time it is reached (what is shared counts as often as it is met; a slice's spare places count too). A statement '..UptoSaid' is the law's where the arguments, and the package variables that the reading takes, are together of bulk at most 1048576: NARROWER than '..Said'. Prove '..Said' where nothing that the law and all that it calls make is longer than what came in: it says more and counts as full. Else prove '..UptoSaid'. A law counts once. -/
mutual
def uptoBulk {H : Type} : DataW H → Nat
  | .lit (.string bytes) => bytes.length + 1
  | .lit _ => 1
  | .nil => 1
  | .ptr d => uptoBulk d + 1
  | .slice elems spare => uptoBulkAll elems + uptoBulkAll spare + 1
  | .agg parts => uptoBulkAll parts + 1
  | .iface _ d => uptoBulk d + 1
  | .map entries => uptoBulkEntries entries + 1
  | .held _ => 1
def uptoBulkAll {H : Type} : List (DataW H) → Nat
  | [] => 0
  | d :: r => uptoBulk d + uptoBulkAll r
def uptoBulkEntries {H : Type} : List (Lit × DataW H) → Nat
  | [] => 0
  | x :: r => uptoBulkEntry x + uptoBulkEntries r
def uptoBulkEntry {H : Type} : Lit × DataW H → Nat
  | (.string bytes, d) => bytes.length + uptoBulk d + 1
  | (_, d) => uptoBulk d + 1
 end
def uptoSmall : (H : Type) → List (DataW H) → Bool := fun _ ds => decide (uptoBulkAll ds ≤ 1048576)
def OpenSpec.upto (s : _root_.Go.ChangeSpec) : _root_.Go.OpenSpec := { _root_.Go.OpenSpec.ofChange s with cond := some uptoSmall }

/-- 'faultlinelaw15.DiagramValues', WHERE WHAT IT READS IS OF BULK AT MOST 1048576: true; the input reads as it did. -/
def diagramValuesUptoRow : OpenClaim := { program := "ytiamkdpljeemkaa", sum := "4cea7e2bd9b1462cb811da39b786ab24fb98551ec6fd2e1174a4e0c92876e276", func := "faultline/faultlinelaw15.DiagramValues", spec := "diagramValues", unfollowed := true, recurses := true, plainKeys := false, apart := false, narrowed := true }
def DiagramValuesUptoSaid : Prop := diagramValuesUptoRow.holds Try.pinned (OpenSpec.upto diagramValuesSpec)

/-- 'faultlinelaw15.DiagramEqual', WHERE WHAT IT READS IS OF BULK AT MOST 1048576: true; the input reads as it did. -/
def diagramEqualUptoRow : OpenClaim := { program := "ytiamkdpljeemkaa", sum := "4cea7e2bd9b1462cb811da39b786ab24fb98551ec6fd2e1174a4e0c92876e276", func := "faultline/faultlinelaw15.DiagramEqual", spec := "diagramEqual", unfollowed := true, recurses := true, plainKeys := false, apart := false, narrowed := true }
def DiagramEqualUptoSaid : Prop := diagramEqualUptoRow.holds Try.pinned (OpenSpec.upto diagramEqualSpec)

/-- 'faultlinelaw15.DiagramDepends', WHERE WHAT IT READS IS OF BULK AT MOST 1048576: true; the input reads as it did. -/
def diagramDependsUptoRow : OpenClaim := { program := "ytiamkdpljeemkaa", sum := "4cea7e2bd9b1462cb811da39b786ab24fb98551ec6fd2e1174a4e0c92876e276", func := "faultline/faultlinelaw15.DiagramDepends", spec := "diagramDepends", unfollowed := true, recurses := true, plainKeys := false, apart := false, narrowed := true }
def DiagramDependsUptoSaid : Prop := diagramDependsUptoRow.holds Try.pinned (OpenSpec.upto diagramDependsSpec)

/-- 'faultlinelaw17.SiftingSifts', WHERE WHAT IT READS IS OF BULK AT MOST 1048576: true; the input reads as it did. -/
def siftingSiftsUptoRow : OpenClaim := { program := "ytiamkdpljeemkaa", sum := "4cea7e2bd9b1462cb811da39b786ab24fb98551ec6fd2e1174a4e0c92876e276", func := "faultline/faultlinelaw17.SiftingSifts", spec := "siftingSifts", inPlace := ["slices.overlaps[int]"], unfollowed := true, recurses := true, plainKeys := false, apart := false, narrowed := true }
def SiftingSiftsUptoSaid : Prop := siftingSiftsUptoRow.holds Try.pinned (OpenSpec.upto siftingSiftsSpec)

/-- 'faultlinelaw17.SiftingBest', WHERE WHAT IT READS IS OF BULK AT MOST 1048576: true; the input reads as it did. -/
def siftingBestUptoRow : OpenClaim := { program := "ytiamkdpljeemkaa", sum := "4cea7e2bd9b1462cb811da39b786ab24fb98551ec6fd2e1174a4e0c92876e276", func := "faultline/faultlinelaw17.SiftingBest", spec := "siftingBest", inPlace := ["slices.overlaps[int]"], unfollowed := true, recurses := true, plainKeys := false, apart := false, narrowed := true }
def SiftingBestUptoSaid : Prop := siftingBestUptoRow.holds Try.pinned (OpenSpec.upto siftingBestSpec)

/-- 'faultlinelaw17.SiftingReorders', WHERE WHAT IT READS IS OF BULK AT MOST 1048576: true; the input reads as it did. -/
def siftingReordersUptoRow : OpenClaim := { program := "ytiamkdpljeemkaa", sum := "4cea7e2bd9b1462cb811da39b786ab24fb98551ec6fd2e1174a4e0c92876e276", func := "faultline/faultlinelaw17.SiftingReorders", spec := "siftingReorders", inPlace := ["slices.overlaps[int]"], unfollowed := true, recurses := true, plainKeys := false, apart := false, narrowed := true }
def SiftingReordersUptoSaid : Prop := siftingReordersUptoRow.holds Try.pinned (OpenSpec.upto siftingReordersSpec)

/-- 'faultlinelaw17.SiftingLess', WHERE WHAT IT READS IS OF BULK AT MOST 1048576: true; the input reads as it did. -/
def siftingLessUptoRow : OpenClaim := { program := "ytiamkdpljeemkaa", sum := "4cea7e2bd9b1462cb811da39b786ab24fb98551ec6fd2e1174a4e0c92876e276", func := "faultline/faultlinelaw17.SiftingLess", spec := "siftingLess", inPlace := ["slices.overlaps[int]"], unfollowed := true, recurses := true, plainKeys := false, apart := false, narrowed := true }
def SiftingLessUptoSaid : Prop := siftingLessUptoRow.holds Try.pinned (OpenSpec.upto siftingLessSpec)

/-- 'faultlinelaw14.OrderMetric', WHERE WHAT IT READS IS OF BULK AT MOST 1048576: true; the input reads as it did. -/
def orderMetricUptoRow : OpenClaim := { program := "ytiamkdpljeemkaa", sum := "4cea7e2bd9b1462cb811da39b786ab24fb98551ec6fd2e1174a4e0c92876e276", func := "faultline/faultlinelaw14.OrderMetric", spec := "orderMetric", unfollowed := true, recurses := true, plainKeys := false, apart := false, narrowed := true }
def OrderMetricUptoSaid : Prop := orderMetricUptoRow.holds Try.pinned (OpenSpec.upto orderMetricSpec)

/-- 'faultlinelaw14.OrderChecks', WHERE WHAT IT READS IS OF BULK AT MOST 1048576: true; the input reads as it did. -/
def orderChecksUptoRow : OpenClaim := { program := "ytiamkdpljeemkaa", sum := "4cea7e2bd9b1462cb811da39b786ab24fb98551ec6fd2e1174a4e0c92876e276", func := "faultline/faultlinelaw14.OrderChecks", spec := "orderChecks", unfollowed := true, recurses := true, plainKeys := false, apart := false, narrowed := true }
def OrderChecksUptoSaid : Prop := orderChecksUptoRow.holds Try.pinned (OpenSpec.upto orderChecksSpec)

/-- 'faultlinelaw14.OrderInverts', WHERE WHAT IT READS IS OF BULK AT MOST 1048576: true; the input reads as it did. -/
def orderInvertsUptoRow : OpenClaim := { program := "ytiamkdpljeemkaa", sum := "4cea7e2bd9b1462cb811da39b786ab24fb98551ec6fd2e1174a4e0c92876e276", func := "faultline/faultlinelaw14.OrderInverts", spec := "orderInverts", unfollowed := true, recurses := true, plainKeys := false, apart := false, narrowed := true }
def OrderInvertsUptoSaid : Prop := orderInvertsUptoRow.holds Try.pinned (OpenSpec.upto orderInvertsSpec)

/-- 'faultlinelaw14.OrderExchanges', WHERE WHAT IT READS IS OF BULK AT MOST 1048576: true; the input reads as it did. -/
def orderExchangesUptoRow : OpenClaim := { program := "ytiamkdpljeemkaa", sum := "4cea7e2bd9b1462cb811da39b786ab24fb98551ec6fd2e1174a4e0c92876e276", func := "faultline/faultlinelaw14.OrderExchanges", spec := "orderExchanges", unfollowed := true, recurses := true, plainKeys := false, apart := false, narrowed := true }
def OrderExchangesUptoSaid : Prop := orderExchangesUptoRow.holds Try.pinned (OpenSpec.upto orderExchangesSpec)

/-- 'faultlinelaw14.OrderPairs', WHERE WHAT IT READS IS OF BULK AT MOST 1048576: true; the input reads as it did. -/
def orderPairsUptoRow : OpenClaim := { program := "ytiamkdpljeemkaa", sum := "4cea7e2bd9b1462cb811da39b786ab24fb98551ec6fd2e1174a4e0c92876e276", func := "faultline/faultlinelaw14.OrderPairs", spec := "orderPairs", unfollowed := true, recurses := true, plainKeys := false, apart := false, narrowed := true }
def OrderPairsUptoSaid : Prop := orderPairsUptoRow.holds Try.pinned (OpenSpec.upto orderPairsSpec)

/-- 'faultlinelaw17.SiftingMoves', WHERE WHAT IT READS IS OF BULK AT MOST 1048576: true; the input reads as it did. -/
def siftingMovesUptoRow : OpenClaim := { program := "ytiamkdpljeemkaa", sum := "4cea7e2bd9b1462cb811da39b786ab24fb98551ec6fd2e1174a4e0c92876e276", func := "faultline/faultlinelaw17.SiftingMoves", spec := "siftingMoves", inPlace := ["slices.overlaps[int]"], unfollowed := true, recurses := true, plainKeys := false, apart := false, narrowed := true }
def SiftingMovesUptoSaid : Prop := siftingMovesUptoRow.holds Try.pinned (OpenSpec.upto siftingMovesSpec)

/-- 'faultlinelaw17.SiftingBack', WHERE WHAT IT READS IS OF BULK AT MOST 1048576: true; the input reads as it did. -/
def siftingBackUptoRow : OpenClaim := { program := "ytiamkdpljeemkaa", sum := "4cea7e2bd9b1462cb811da39b786ab24fb98551ec6fd2e1174a4e0c92876e276", func := "faultline/faultlinelaw17.SiftingBack", spec := "siftingBack", inPlace := ["slices.overlaps[int]"], unfollowed := true, recurses := true, plainKeys := false, apart := false, narrowed := true }
def SiftingBackUptoSaid : Prop := siftingBackUptoRow.holds Try.pinned (OpenSpec.upto siftingBackSpec)

/-- 'faultlinelaw17.SiftingKeeps', WHERE WHAT IT READS IS OF BULK AT MOST 1048576: true; the input reads as it did. -/
def siftingKeepsUptoRow : OpenClaim := { program := "ytiamkdpljeemkaa", sum := "4cea7e2bd9b1462cb811da39b786ab24fb98551ec6fd2e1174a4e0c92876e276", func := "faultline/faultlinelaw17.SiftingKeeps", spec := "siftingKeeps", inPlace := ["slices.overlaps[int]"], unfollowed := true, recurses := true, plainKeys := false, apart := false, narrowed := true }
def SiftingKeepsUptoSaid : Prop := siftingKeepsUptoRow.holds Try.pinned (OpenSpec.upto siftingKeepsSpec)

/-- 'faultlinelaw14.OrderReturns', WHERE WHAT IT READS IS OF BULK AT MOST 1048576: true; the input reads as it did. -/
def orderReturnsUptoRow : OpenClaim := { program := "ytiamkdpljeemkaa", sum := "4cea7e2bd9b1462cb811da39b786ab24fb98551ec6fd2e1174a4e0c92876e276", func := "faultline/faultlinelaw14.OrderReturns", spec := "orderReturns", unfollowed := true, recurses := true, plainKeys := false, apart := false, narrowed := true }
def OrderReturnsUptoSaid : Prop := orderReturnsUptoRow.holds Try.pinned (OpenSpec.upto orderReturnsSpec)

/-- 'faultlinelaw17.SiftingBuilds', WHERE WHAT IT READS IS OF BULK AT MOST 1048576: true; the input reads as it did. -/
def siftingBuildsUptoRow : OpenClaim := { program := "ytiamkdpljeemkaa", sum := "4cea7e2bd9b1462cb811da39b786ab24fb98551ec6fd2e1174a4e0c92876e276", func := "faultline/faultlinelaw17.SiftingBuilds", spec := "siftingBuilds", inPlace := ["slices.overlaps[int]"], unfollowed := true, recurses := true, plainKeys := false, apart := false, narrowed := true }
def SiftingBuildsUptoSaid : Prop := siftingBuildsUptoRow.holds Try.pinned (OpenSpec.upto siftingBuildsSpec)

end Rows
end Go.Proofs.Ytiamkdpljeemkaa
