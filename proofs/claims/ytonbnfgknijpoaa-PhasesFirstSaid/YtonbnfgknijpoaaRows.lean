/-
  No cell of these rows narrows 'for every input' (looked for: loops, veiled, ifaces, maps, wideKeys, modest, calm, conditions, laid).
  DERIVED. THE GIVEN ROWS OF THIS SEAT. 18 by the template 'for every input the law returns true; each argument reads behind the call as it read before'; 0 by the template 'total and deterministic' (their statements: YtonbnfgknijpoaaTotals.lean).
  GIVEN WITH THE SEED: the statements are not yours to turn. If you find one false, say at which input.
  Laid BY PROGRAM, IN A SANDBOX (cutbox-rows.mjs): the forced cells as the released guide's own fill.sh prints them over the translation 694483fb013ba13e… (all of the seat's roots in one cut). By AI agents, Wed Nov 11 2026. No macro, syntax, notation, axiom, sorry.
-/
import Derived.Test.YtonbnfgknijpoaaChecked
import GoSem.Claim
import GoSem.ClaimJoined
import GoSem.ClaimMapViews
import Derived.JoinedTies
import Derived.KernelRfl
namespace Go.Proofs.Ytonbnfgknijpoaa
/- THE CELL 'sum', in the pinned program and in every row, IS THE sha256 OF THE DUMP (.gsa) THAT YtonbnfgknijpoaaProg.lean LOADS. Nothing in Lean hashes anything: it is a label: what it is worth is what the hold of that sum in a sandbox is worth. -/
noncomputable def Try.pinned : Pinned := { name := "ytonbnfgknijpoaa", sum := "694483fb013ba13efc0c764e692a503f183d8cf5f8d4ef949af24d28254269f6", checked := Try.checked }
namespace Rows
def none {H : Type} : Left H := { results := [], args := [] }

/-- 'faultlinelaw50.ProductRates': WHATEVER THE INPUT: true; the input reads as it did. -/
def productRatesSpec : ChangeSpec := { name := "productRates", fn := fun _ => fun
  | [d1, d2, d3] => { results := [.lit (.bool true)], args := [d1, d2, d3] }
  | _ => none }
def productRatesRow : OpenClaim := { program := "ytonbnfgknijpoaa", sum := "694483fb013ba13efc0c764e692a503f183d8cf5f8d4ef949af24d28254269f6", func := "faultline/faultlinelaw50.ProductRates", spec := "productRates", apart := false }
def ProductRatesSaid : Prop := productRatesRow.holds Try.pinned (OpenSpec.ofChange productRatesSpec)

/-- ITS FALSE NEIGHBOUR: 'it returns false'. Refute it at one input. -/
def productRatesWrong : ChangeSpec := { name := "productRates", fn := fun _ => fun
  | [d1, d2, d3] => { results := [.lit (.bool false)], args := [d1, d2, d3] }
  | _ => none }
def ProductRatesWrongFalsely : Prop := productRatesRow.holds Try.pinned (OpenSpec.ofChange productRatesWrong)

/-- 'faultlinelaw45.CommonGreek': WHATEVER THE INPUT: true; the input reads as it did. -/
def commonGreekSpec : ChangeSpec := { name := "commonGreek", fn := fun _ => fun
  | [d1, d2] => { results := [.lit (.bool true)], args := [d1, d2] }
  | _ => none }
def commonGreekRow : OpenClaim := { program := "ytonbnfgknijpoaa", sum := "694483fb013ba13efc0c764e692a503f183d8cf5f8d4ef949af24d28254269f6", func := "faultline/faultlinelaw45.CommonGreek", spec := "commonGreek", unfollowed := true, recurses := true, apart := false }
def CommonGreekSaid : Prop := commonGreekRow.holds Try.pinned (OpenSpec.ofChange commonGreekSpec)

/-- ITS FALSE NEIGHBOUR: 'it returns false'. Refute it at one input. -/
def commonGreekWrong : ChangeSpec := { name := "commonGreek", fn := fun _ => fun
  | [d1, d2] => { results := [.lit (.bool false)], args := [d1, d2] }
  | _ => none }
def CommonGreekWrongFalsely : Prop := commonGreekRow.holds Try.pinned (OpenSpec.ofChange commonGreekWrong)

/-- 'faultlinelaw45.CommonTotal': WHATEVER THE INPUT: true; the input reads as it did. -/
def commonTotalSpec : ChangeSpec := { name := "commonTotal", fn := fun _ => fun
  | [d1, d2] => { results := [.lit (.bool true)], args := [d1, d2] }
  | _ => none }
def commonTotalRow : OpenClaim := { program := "ytonbnfgknijpoaa", sum := "694483fb013ba13efc0c764e692a503f183d8cf5f8d4ef949af24d28254269f6", func := "faultline/faultlinelaw45.CommonTotal", spec := "commonTotal", unfollowed := true, recurses := true, apart := false }
def CommonTotalSaid : Prop := commonTotalRow.holds Try.pinned (OpenSpec.ofChange commonTotalSpec)

/-- ITS FALSE NEIGHBOUR: 'it returns false'. Refute it at one input. -/
def commonTotalWrong : ChangeSpec := { name := "commonTotal", fn := fun _ => fun
  | [d1, d2] => { results := [.lit (.bool false)], args := [d1, d2] }
  | _ => none }
def CommonTotalWrongFalsely : Prop := commonTotalRow.holds Try.pinned (OpenSpec.ofChange commonTotalWrong)

/-- 'faultlinelaw45.CommonBeta': WHATEVER THE INPUT: true; the input reads as it did. -/
def commonBetaSpec : ChangeSpec := { name := "commonBeta", fn := fun _ => fun
  | [d1, d2, d3] => { results := [.lit (.bool true)], args := [d1, d2, d3] }
  | _ => none }
def commonBetaRow : OpenClaim := { program := "ytonbnfgknijpoaa", sum := "694483fb013ba13efc0c764e692a503f183d8cf5f8d4ef949af24d28254269f6", func := "faultline/faultlinelaw45.CommonBeta", spec := "commonBeta", unfollowed := true, recurses := true, apart := false }
def CommonBetaSaid : Prop := commonBetaRow.holds Try.pinned (OpenSpec.ofChange commonBetaSpec)

/-- ITS FALSE NEIGHBOUR: 'it returns false'. Refute it at one input. -/
def commonBetaWrong : ChangeSpec := { name := "commonBeta", fn := fun _ => fun
  | [d1, d2, d3] => { results := [.lit (.bool false)], args := [d1, d2, d3] }
  | _ => none }
def CommonBetaWrongFalsely : Prop := commonBetaRow.holds Try.pinned (OpenSpec.ofChange commonBetaWrong)

/-- 'faultlinelaw45.CommonSums': WHATEVER THE INPUT: true; the input reads as it did. -/
def commonSumsSpec : ChangeSpec := { name := "commonSums", fn := fun _ => fun
  | [d1, d2] => { results := [.lit (.bool true)], args := [d1, d2] }
  | _ => none }
def commonSumsRow : OpenClaim := { program := "ytonbnfgknijpoaa", sum := "694483fb013ba13efc0c764e692a503f183d8cf5f8d4ef949af24d28254269f6", func := "faultline/faultlinelaw45.CommonSums", spec := "commonSums", unfollowed := true, recurses := true, apart := false }
def CommonSumsSaid : Prop := commonSumsRow.holds Try.pinned (OpenSpec.ofChange commonSumsSpec)

/-- ITS FALSE NEIGHBOUR: 'it returns false'. Refute it at one input. -/
def commonSumsWrong : ChangeSpec := { name := "commonSums", fn := fun _ => fun
  | [d1, d2] => { results := [.lit (.bool false)], args := [d1, d2] }
  | _ => none }
def CommonSumsWrongFalsely : Prop := commonSumsRow.holds Try.pinned (OpenSpec.ofChange commonSumsWrong)

/-- 'faultlinelaw50.ProductMarginals': WHATEVER THE INPUT: true; the input reads as it did. -/
def productMarginalsSpec : ChangeSpec := { name := "productMarginals", fn := fun _ => fun
  | [d1, d2] => { results := [.lit (.bool true)], args := [d1, d2] }
  | _ => none }
def productMarginalsRow : OpenClaim := { program := "ytonbnfgknijpoaa", sum := "694483fb013ba13efc0c764e692a503f183d8cf5f8d4ef949af24d28254269f6", func := "faultline/faultlinelaw50.ProductMarginals", spec := "productMarginals", apart := false }
def ProductMarginalsSaid : Prop := productMarginalsRow.holds Try.pinned (OpenSpec.ofChange productMarginalsSpec)

/-- ITS FALSE NEIGHBOUR: 'it returns false'. Refute it at one input. -/
def productMarginalsWrong : ChangeSpec := { name := "productMarginals", fn := fun _ => fun
  | [d1, d2] => { results := [.lit (.bool false)], args := [d1, d2] }
  | _ => none }
def ProductMarginalsWrongFalsely : Prop := productMarginalsRow.holds Try.pinned (OpenSpec.ofChange productMarginalsWrong)

/-- 'faultlinelaw50.ProductBalanced': WHATEVER THE INPUT: true; the input reads as it did. -/
def productBalancedSpec : ChangeSpec := { name := "productBalanced", fn := fun _ => fun
  | [d] => { results := [.lit (.bool true)], args := [d] }
  | _ => none }
def productBalancedRow : OpenClaim := { program := "ytonbnfgknijpoaa", sum := "694483fb013ba13efc0c764e692a503f183d8cf5f8d4ef949af24d28254269f6", func := "faultline/faultlinelaw50.ProductBalanced", spec := "productBalanced", apart := false }
def ProductBalancedSaid : Prop := productBalancedRow.holds Try.pinned (OpenSpec.ofChange productBalancedSpec)

/-- ITS FALSE NEIGHBOUR: 'it returns false'. Refute it at one input. -/
def productBalancedWrong : ChangeSpec := { name := "productBalanced", fn := fun _ => fun
  | [d] => { results := [.lit (.bool false)], args := [d] }
  | _ => none }
def ProductBalancedWrongFalsely : Prop := productBalancedRow.holds Try.pinned (OpenSpec.ofChange productBalancedWrong)

/-- 'faultlinelaw50.ProductDown': WHATEVER THE INPUT: true; the input reads as it did. -/
def productDownSpec : ChangeSpec := { name := "productDown", fn := fun _ => fun
  | [d1, d2] => { results := [.lit (.bool true)], args := [d1, d2] }
  | _ => none }
def productDownRow : OpenClaim := { program := "ytonbnfgknijpoaa", sum := "694483fb013ba13efc0c764e692a503f183d8cf5f8d4ef949af24d28254269f6", func := "faultline/faultlinelaw50.ProductDown", spec := "productDown", apart := false }
def ProductDownSaid : Prop := productDownRow.holds Try.pinned (OpenSpec.ofChange productDownSpec)

/-- ITS FALSE NEIGHBOUR: 'it returns false'. Refute it at one input. -/
def productDownWrong : ChangeSpec := { name := "productDown", fn := fun _ => fun
  | [d1, d2] => { results := [.lit (.bool false)], args := [d1, d2] }
  | _ => none }
def ProductDownWrongFalsely : Prop := productDownRow.holds Try.pinned (OpenSpec.ofChange productDownWrong)

/-- 'faultlinelaw50.ProductSums': WHATEVER THE INPUT: true; the input reads as it did. -/
def productSumsSpec : ChangeSpec := { name := "productSums", fn := fun _ => fun
  | [d1, d2, d3] => { results := [.lit (.bool true)], args := [d1, d2, d3] }
  | _ => none }
def productSumsRow : OpenClaim := { program := "ytonbnfgknijpoaa", sum := "694483fb013ba13efc0c764e692a503f183d8cf5f8d4ef949af24d28254269f6", func := "faultline/faultlinelaw50.ProductSums", spec := "productSums", apart := false }
def ProductSumsSaid : Prop := productSumsRow.holds Try.pinned (OpenSpec.ofChange productSumsSpec)

/-- ITS FALSE NEIGHBOUR: 'it returns false'. Refute it at one input. -/
def productSumsWrong : ChangeSpec := { name := "productSums", fn := fun _ => fun
  | [d1, d2, d3] => { results := [.lit (.bool false)], args := [d1, d2, d3] }
  | _ => none }
def ProductSumsWrongFalsely : Prop := productSumsRow.holds Try.pinned (OpenSpec.ofChange productSumsWrong)

/-- 'faultlinelaw50.ProductChains': WHATEVER THE INPUT: true; the input reads as it did. -/
def productChainsSpec : ChangeSpec := { name := "productChains", fn := fun _ => fun
  | [d1, d2] => { results := [.lit (.bool true)], args := [d1, d2] }
  | _ => none }
def productChainsRow : OpenClaim := { program := "ytonbnfgknijpoaa", sum := "694483fb013ba13efc0c764e692a503f183d8cf5f8d4ef949af24d28254269f6", func := "faultline/faultlinelaw50.ProductChains", spec := "productChains", apart := false }
def ProductChainsSaid : Prop := productChainsRow.holds Try.pinned (OpenSpec.ofChange productChainsSpec)

/-- ITS FALSE NEIGHBOUR: 'it returns false'. Refute it at one input. -/
def productChainsWrong : ChangeSpec := { name := "productChains", fn := fun _ => fun
  | [d1, d2] => { results := [.lit (.bool false)], args := [d1, d2] }
  | _ => none }
def ProductChainsWrongFalsely : Prop := productChainsRow.holds Try.pinned (OpenSpec.ofChange productChainsWrong)

/-- 'faultlinelaw46.PhasesChecks': WHATEVER THE INPUT: true; the input reads as it did. -/
def phasesChecksSpec : ChangeSpec := { name := "phasesChecks", fn := fun _ => fun
  | [d1, d2] => { results := [.lit (.bool true)], args := [d1, d2] }
  | _ => none }
def phasesChecksRow : OpenClaim := { program := "ytonbnfgknijpoaa", sum := "694483fb013ba13efc0c764e692a503f183d8cf5f8d4ef949af24d28254269f6", func := "faultline/faultlinelaw46.PhasesChecks", spec := "phasesChecks", unfollowed := true, recurses := true, apart := false }
def PhasesChecksSaid : Prop := phasesChecksRow.holds Try.pinned (OpenSpec.ofChange phasesChecksSpec)

/-- ITS FALSE NEIGHBOUR: 'it returns false'. Refute it at one input. -/
def phasesChecksWrong : ChangeSpec := { name := "phasesChecks", fn := fun _ => fun
  | [d1, d2] => { results := [.lit (.bool false)], args := [d1, d2] }
  | _ => none }
def PhasesChecksWrongFalsely : Prop := phasesChecksRow.holds Try.pinned (OpenSpec.ofChange phasesChecksWrong)

/-- 'faultlinelaw46.PhasesUnfolds': WHATEVER THE INPUT: true; the input reads as it did. -/
def phasesUnfoldsSpec : ChangeSpec := { name := "phasesUnfolds", fn := fun _ => fun
  | [d] => { results := [.lit (.bool true)], args := [d] }
  | _ => none }
def phasesUnfoldsRow : OpenClaim := { program := "ytonbnfgknijpoaa", sum := "694483fb013ba13efc0c764e692a503f183d8cf5f8d4ef949af24d28254269f6", func := "faultline/faultlinelaw46.PhasesUnfolds", spec := "phasesUnfolds", unfollowed := true, recurses := true, apart := false }
def PhasesUnfoldsSaid : Prop := phasesUnfoldsRow.holds Try.pinned (OpenSpec.ofChange phasesUnfoldsSpec)

/-- ITS FALSE NEIGHBOUR: 'it returns false'. Refute it at one input. -/
def phasesUnfoldsWrong : ChangeSpec := { name := "phasesUnfolds", fn := fun _ => fun
  | [d] => { results := [.lit (.bool false)], args := [d] }
  | _ => none }
def PhasesUnfoldsWrongFalsely : Prop := phasesUnfoldsRow.holds Try.pinned (OpenSpec.ofChange phasesUnfoldsWrong)

/-- 'faultlinelaw46.PhasesHolds': WHATEVER THE INPUT: true; the input reads as it did. -/
def phasesHoldsSpec : ChangeSpec := { name := "phasesHolds", fn := fun _ => fun
  | [d1, d2] => { results := [.lit (.bool true)], args := [d1, d2] }
  | _ => none }
def phasesHoldsRow : OpenClaim := { program := "ytonbnfgknijpoaa", sum := "694483fb013ba13efc0c764e692a503f183d8cf5f8d4ef949af24d28254269f6", func := "faultline/faultlinelaw46.PhasesHolds", spec := "phasesHolds", unfollowed := true, recurses := true, apart := false }
def PhasesHoldsSaid : Prop := phasesHoldsRow.holds Try.pinned (OpenSpec.ofChange phasesHoldsSpec)

/-- ITS FALSE NEIGHBOUR: 'it returns false'. Refute it at one input. -/
def phasesHoldsWrong : ChangeSpec := { name := "phasesHolds", fn := fun _ => fun
  | [d1, d2] => { results := [.lit (.bool false)], args := [d1, d2] }
  | _ => none }
def PhasesHoldsWrongFalsely : Prop := phasesHoldsRow.holds Try.pinned (OpenSpec.ofChange phasesHoldsWrong)

/-- 'faultlinelaw46.PhasesFirst': WHATEVER THE INPUT: true; the input reads as it did. -/
def phasesFirstSpec : ChangeSpec := { name := "phasesFirst", fn := fun _ => fun
  | [d1, d2] => { results := [.lit (.bool true)], args := [d1, d2] }
  | _ => none }
def phasesFirstRow : OpenClaim := { program := "ytonbnfgknijpoaa", sum := "694483fb013ba13efc0c764e692a503f183d8cf5f8d4ef949af24d28254269f6", func := "faultline/faultlinelaw46.PhasesFirst", spec := "phasesFirst", unfollowed := true, recurses := true, apart := false }
def PhasesFirstSaid : Prop := phasesFirstRow.holds Try.pinned (OpenSpec.ofChange phasesFirstSpec)

/-- ITS FALSE NEIGHBOUR: 'it returns false'. Refute it at one input. -/
def phasesFirstWrong : ChangeSpec := { name := "phasesFirst", fn := fun _ => fun
  | [d1, d2] => { results := [.lit (.bool false)], args := [d1, d2] }
  | _ => none }
def PhasesFirstWrongFalsely : Prop := phasesFirstRow.holds Try.pinned (OpenSpec.ofChange phasesFirstWrong)

/-- 'faultlinelaw46.PhasesSums': WHATEVER THE INPUT: true; the input reads as it did. -/
def phasesSumsSpec : ChangeSpec := { name := "phasesSums", fn := fun _ => fun
  | [d] => { results := [.lit (.bool true)], args := [d] }
  | _ => none }
def phasesSumsRow : OpenClaim := { program := "ytonbnfgknijpoaa", sum := "694483fb013ba13efc0c764e692a503f183d8cf5f8d4ef949af24d28254269f6", func := "faultline/faultlinelaw46.PhasesSums", spec := "phasesSums", unfollowed := true, recurses := true, apart := false }
def PhasesSumsSaid : Prop := phasesSumsRow.holds Try.pinned (OpenSpec.ofChange phasesSumsSpec)

/-- ITS FALSE NEIGHBOUR: 'it returns false'. Refute it at one input. -/
def phasesSumsWrong : ChangeSpec := { name := "phasesSums", fn := fun _ => fun
  | [d] => { results := [.lit (.bool false)], args := [d] }
  | _ => none }
def PhasesSumsWrongFalsely : Prop := phasesSumsRow.holds Try.pinned (OpenSpec.ofChange phasesSumsWrong)

/-- 'faultlinelaw45.CommonNone': WHATEVER THE INPUT: true; the input reads as it did. -/
def commonNoneSpec : ChangeSpec := { name := "commonNone", fn := fun _ => fun
  | [d1, d2] => { results := [.lit (.bool true)], args := [d1, d2] }
  | _ => none }
def commonNoneRow : OpenClaim := { program := "ytonbnfgknijpoaa", sum := "694483fb013ba13efc0c764e692a503f183d8cf5f8d4ef949af24d28254269f6", func := "faultline/faultlinelaw45.CommonNone", spec := "commonNone", unfollowed := true, recurses := true, apart := false }
def CommonNoneSaid : Prop := commonNoneRow.holds Try.pinned (OpenSpec.ofChange commonNoneSpec)

/-- ITS FALSE NEIGHBOUR: 'it returns false'. Refute it at one input. -/
def commonNoneWrong : ChangeSpec := { name := "commonNone", fn := fun _ => fun
  | [d1, d2] => { results := [.lit (.bool false)], args := [d1, d2] }
  | _ => none }
def CommonNoneWrongFalsely : Prop := commonNoneRow.holds Try.pinned (OpenSpec.ofChange commonNoneWrong)

/-- 'faultlinelaw46.PhasesReads': WHATEVER THE INPUT: true; the input reads as it did. -/
def phasesReadsSpec : ChangeSpec := { name := "phasesReads", fn := fun _ => fun
  | [d1, d2, d3] => { results := [.lit (.bool true)], args := [d1, d2, d3] }
  | _ => none }
def phasesReadsRow : OpenClaim := { program := "ytonbnfgknijpoaa", sum := "694483fb013ba13efc0c764e692a503f183d8cf5f8d4ef949af24d28254269f6", func := "faultline/faultlinelaw46.PhasesReads", spec := "phasesReads", unfollowed := true, recurses := true, apart := false }
def PhasesReadsSaid : Prop := phasesReadsRow.holds Try.pinned (OpenSpec.ofChange phasesReadsSpec)

/-- ITS FALSE NEIGHBOUR: 'it returns false'. Refute it at one input. -/
def phasesReadsWrong : ChangeSpec := { name := "phasesReads", fn := fun _ => fun
  | [d1, d2, d3] => { results := [.lit (.bool false)], args := [d1, d2, d3] }
  | _ => none }
def PhasesReadsWrongFalsely : Prop := phasesReadsRow.holds Try.pinned (OpenSpec.ofChange phasesReadsWrong)

/-- 'faultlinelaw46.PhasesGrows': WHATEVER THE INPUT: true; the input reads as it did. -/
def phasesGrowsSpec : ChangeSpec := { name := "phasesGrows", fn := fun _ => fun
  | [d1, d2, d3] => { results := [.lit (.bool true)], args := [d1, d2, d3] }
  | _ => none }
def phasesGrowsRow : OpenClaim := { program := "ytonbnfgknijpoaa", sum := "694483fb013ba13efc0c764e692a503f183d8cf5f8d4ef949af24d28254269f6", func := "faultline/faultlinelaw46.PhasesGrows", spec := "phasesGrows", unfollowed := true, recurses := true, apart := false }
def PhasesGrowsSaid : Prop := phasesGrowsRow.holds Try.pinned (OpenSpec.ofChange phasesGrowsSpec)

/-- ITS FALSE NEIGHBOUR: 'it returns false'. Refute it at one input. -/
def phasesGrowsWrong : ChangeSpec := { name := "phasesGrows", fn := fun _ => fun
  | [d1, d2, d3] => { results := [.lit (.bool false)], args := [d1, d2, d3] }
  | _ => none }
def PhasesGrowsWrongFalsely : Prop := phasesGrowsRow.holds Try.pinned (OpenSpec.ofChange phasesGrowsWrong)

/- THE SECOND FORM. 'bulk': how many values and letters a reading holds, each counted each time it is reached (what is shared counts as often as it is met; a slice's spare places count too). A statement '..UptoSaid' is the law's where the arguments, and the package variables that the reading takes, are together of bulk at most 1048576: NARROWER than '..Said'. Prove '..Said' where nothing that the law and all that it calls make is longer than what came in: it says more and counts as full. Else prove '..UptoSaid'. A law counts once. -/
mutual
def uptoBulk {H : Type} : DataW H → Nat
  | .lit (.string bytes) => bytes.length + 1
  | .lit _ => 1
  | .nil => 1
  | .ptr d => uptoBulk d + 1
  | .slice elems spare => uptoBulkAll elems + uptoBulkAll spare + 1
  | .agg parts => uptoBulkAll parts + 1
  | .iface _ d => uptoBulk d + 1
  | .map entries => uptoBulkEntries entries + 1
  | .held _ => 1
def uptoBulkAll {H : Type} : List (DataW H) → Nat
  | [] => 0
  | d :: r => uptoBulk d + uptoBulkAll r
def uptoBulkEntries {H : Type} : List (Lit × DataW H) → Nat
  | [] => 0
  | x :: r => uptoBulkEntry x + uptoBulkEntries r
def uptoBulkEntry {H : Type} : Lit × DataW H → Nat
  | (.string bytes, d) => bytes.length + uptoBulk d + 1
  | (_, d) => uptoBulk d + 1
 end
def uptoSmall : (H : Type) → List (DataW H) → Bool := fun _ ds => decide (uptoBulkAll ds ≤ 1048576)
def OpenSpec.upto (s : _root_.Go.ChangeSpec) : _root_.Go.OpenSpec := { _root_.Go.OpenSpec.ofChange s with cond := some uptoSmall }

/-- 'faultlinelaw50.ProductRates', WHERE WHAT IT READS IS OF BULK AT MOST 1048576: true; the input reads as it did. -/
def productRatesUptoRow : OpenClaim := { program := "ytonbnfgknijpoaa", sum := "694483fb013ba13efc0c764e692a503f183d8cf5f8d4ef949af24d28254269f6", func := "faultline/faultlinelaw50.ProductRates", spec := "productRates", apart := false, narrowed := true }
def ProductRatesUptoSaid : Prop := productRatesUptoRow.holds Try.pinned (OpenSpec.upto productRatesSpec)

/-- 'faultlinelaw45.CommonGreek', WHERE WHAT IT READS IS OF BULK AT MOST 1048576: true; the input reads as it did. -/
def commonGreekUptoRow : OpenClaim := { program := "ytonbnfgknijpoaa", sum := "694483fb013ba13efc0c764e692a503f183d8cf5f8d4ef949af24d28254269f6", func := "faultline/faultlinelaw45.CommonGreek", spec := "commonGreek", unfollowed := true, recurses := true, apart := false, narrowed := true }
def CommonGreekUptoSaid : Prop := commonGreekUptoRow.holds Try.pinned (OpenSpec.upto commonGreekSpec)

/-- 'faultlinelaw45.CommonTotal', WHERE WHAT IT READS IS OF BULK AT MOST 1048576: true; the input reads as it did. -/
def commonTotalUptoRow : OpenClaim := { program := "ytonbnfgknijpoaa", sum := "694483fb013ba13efc0c764e692a503f183d8cf5f8d4ef949af24d28254269f6", func := "faultline/faultlinelaw45.CommonTotal", spec := "commonTotal", unfollowed := true, recurses := true, apart := false, narrowed := true }
def CommonTotalUptoSaid : Prop := commonTotalUptoRow.holds Try.pinned (OpenSpec.upto commonTotalSpec)

/-- 'faultlinelaw45.CommonBeta', WHERE WHAT IT READS IS OF BULK AT MOST 1048576: true; the input reads as it did. -/
def commonBetaUptoRow : OpenClaim := { program := "ytonbnfgknijpoaa", sum := "694483fb013ba13efc0c764e692a503f183d8cf5f8d4ef949af24d28254269f6", func := "faultline/faultlinelaw45.CommonBeta", spec := "commonBeta", unfollowed := true, recurses := true, apart := false, narrowed := true }
def CommonBetaUptoSaid : Prop := commonBetaUptoRow.holds Try.pinned (OpenSpec.upto commonBetaSpec)

/-- 'faultlinelaw45.CommonSums', WHERE WHAT IT READS IS OF BULK AT MOST 1048576: true; the input reads as it did. -/
def commonSumsUptoRow : OpenClaim := { program := "ytonbnfgknijpoaa", sum := "694483fb013ba13efc0c764e692a503f183d8cf5f8d4ef949af24d28254269f6", func := "faultline/faultlinelaw45.CommonSums", spec := "commonSums", unfollowed := true, recurses := true, apart := false, narrowed := true }
def CommonSumsUptoSaid : Prop := commonSumsUptoRow.holds Try.pinned (OpenSpec.upto commonSumsSpec)

/-- 'faultlinelaw50.ProductMarginals', WHERE WHAT IT READS IS OF BULK AT MOST 1048576: true; the input reads as it did. -/
def productMarginalsUptoRow : OpenClaim := { program := "ytonbnfgknijpoaa", sum := "694483fb013ba13efc0c764e692a503f183d8cf5f8d4ef949af24d28254269f6", func := "faultline/faultlinelaw50.ProductMarginals", spec := "productMarginals", apart := false, narrowed := true }
def ProductMarginalsUptoSaid : Prop := productMarginalsUptoRow.holds Try.pinned (OpenSpec.upto productMarginalsSpec)

/-- 'faultlinelaw50.ProductBalanced', WHERE WHAT IT READS IS OF BULK AT MOST 1048576: true; the input reads as it did. -/
def productBalancedUptoRow : OpenClaim := { program := "ytonbnfgknijpoaa", sum := "694483fb013ba13efc0c764e692a503f183d8cf5f8d4ef949af24d28254269f6", func := "faultline/faultlinelaw50.ProductBalanced", spec := "productBalanced", apart := false, narrowed := true }
def ProductBalancedUptoSaid : Prop := productBalancedUptoRow.holds Try.pinned (OpenSpec.upto productBalancedSpec)

/-- 'faultlinelaw50.ProductDown', WHERE WHAT IT READS IS OF BULK AT MOST 1048576: true; the input reads as it did. -/
def productDownUptoRow : OpenClaim := { program := "ytonbnfgknijpoaa", sum := "694483fb013ba13efc0c764e692a503f183d8cf5f8d4ef949af24d28254269f6", func := "faultline/faultlinelaw50.ProductDown", spec := "productDown", apart := false, narrowed := true }
def ProductDownUptoSaid : Prop := productDownUptoRow.holds Try.pinned (OpenSpec.upto productDownSpec)

/-- 'faultlinelaw50.ProductSums', WHERE WHAT IT READS IS OF BULK AT MOST 1048576: true; the input reads as it did. -/
def productSumsUptoRow : OpenClaim := { program := "ytonbnfgknijpoaa", sum := "694483fb013ba13efc0c764e692a503f183d8cf5f8d4ef949af24d28254269f6", func := "faultline/faultlinelaw50.ProductSums", spec := "productSums", apart := false, narrowed := true }
def ProductSumsUptoSaid : Prop := productSumsUptoRow.holds Try.pinned (OpenSpec.upto productSumsSpec)

/-- 'faultlinelaw50.ProductChains', WHERE WHAT IT READS IS OF BULK AT MOST 1048576: true; the input reads as it did. -/
def productChainsUptoRow : OpenClaim := { program := "ytonbnfgknijpoaa", sum := "694483fb013ba13efc0c764e692a503f183d8cf5f8d4ef949af24d28254269f6", func := "faultline/faultlinelaw50.ProductChains", spec := "productChains", apart := false, narrowed := true }
def ProductChainsUptoSaid : Prop := productChainsUptoRow.holds Try.pinned (OpenSpec.upto productChainsSpec)

/-- 'faultlinelaw46.PhasesChecks', WHERE WHAT IT READS IS OF BULK AT MOST 1048576: true; the input reads as it did. -/
def phasesChecksUptoRow : OpenClaim := { program := "ytonbnfgknijpoaa", sum := "694483fb013ba13efc0c764e692a503f183d8cf5f8d4ef949af24d28254269f6", func := "faultline/faultlinelaw46.PhasesChecks", spec := "phasesChecks", unfollowed := true, recurses := true, apart := false, narrowed := true }
def PhasesChecksUptoSaid : Prop := phasesChecksUptoRow.holds Try.pinned (OpenSpec.upto phasesChecksSpec)

/-- 'faultlinelaw46.PhasesUnfolds', WHERE WHAT IT READS IS OF BULK AT MOST 1048576: true; the input reads as it did. -/
def phasesUnfoldsUptoRow : OpenClaim := { program := "ytonbnfgknijpoaa", sum := "694483fb013ba13efc0c764e692a503f183d8cf5f8d4ef949af24d28254269f6", func := "faultline/faultlinelaw46.PhasesUnfolds", spec := "phasesUnfolds", unfollowed := true, recurses := true, apart := false, narrowed := true }
def PhasesUnfoldsUptoSaid : Prop := phasesUnfoldsUptoRow.holds Try.pinned (OpenSpec.upto phasesUnfoldsSpec)

/-- 'faultlinelaw46.PhasesHolds', WHERE WHAT IT READS IS OF BULK AT MOST 1048576: true; the input reads as it did. -/
def phasesHoldsUptoRow : OpenClaim := { program := "ytonbnfgknijpoaa", sum := "694483fb013ba13efc0c764e692a503f183d8cf5f8d4ef949af24d28254269f6", func := "faultline/faultlinelaw46.PhasesHolds", spec := "phasesHolds", unfollowed := true, recurses := true, apart := false, narrowed := true }
def PhasesHoldsUptoSaid : Prop := phasesHoldsUptoRow.holds Try.pinned (OpenSpec.upto phasesHoldsSpec)

/-- 'faultlinelaw46.PhasesFirst', WHERE WHAT IT READS IS OF BULK AT MOST 1048576: true; the input reads as it did. -/
def phasesFirstUptoRow : OpenClaim := { program := "ytonbnfgknijpoaa", sum := "694483fb013ba13efc0c764e692a503f183d8cf5f8d4ef949af24d28254269f6", func := "faultline/faultlinelaw46.PhasesFirst", spec := "phasesFirst", unfollowed := true, recurses := true, apart := false, narrowed := true }
def PhasesFirstUptoSaid : Prop := phasesFirstUptoRow.holds Try.pinned (OpenSpec.upto phasesFirstSpec)

/-- 'faultlinelaw46.PhasesSums', WHERE WHAT IT READS IS OF BULK AT MOST 1048576: true; the input reads as it did. -/
def phasesSumsUptoRow : OpenClaim := { program := "ytonbnfgknijpoaa", sum := "694483fb013ba13efc0c764e692a503f183d8cf5f8d4ef949af24d28254269f6", func := "faultline/faultlinelaw46.PhasesSums", spec := "phasesSums", unfollowed := true, recurses := true, apart := false, narrowed := true }
def PhasesSumsUptoSaid : Prop := phasesSumsUptoRow.holds Try.pinned (OpenSpec.upto phasesSumsSpec)

/-- 'faultlinelaw45.CommonNone', WHERE WHAT IT READS IS OF BULK AT MOST 1048576: true; the input reads as it did. -/
def commonNoneUptoRow : OpenClaim := { program := "ytonbnfgknijpoaa", sum := "694483fb013ba13efc0c764e692a503f183d8cf5f8d4ef949af24d28254269f6", func := "faultline/faultlinelaw45.CommonNone", spec := "commonNone", unfollowed := true, recurses := true, apart := false, narrowed := true }
def CommonNoneUptoSaid : Prop := commonNoneUptoRow.holds Try.pinned (OpenSpec.upto commonNoneSpec)

/-- 'faultlinelaw46.PhasesReads', WHERE WHAT IT READS IS OF BULK AT MOST 1048576: true; the input reads as it did. -/
def phasesReadsUptoRow : OpenClaim := { program := "ytonbnfgknijpoaa", sum := "694483fb013ba13efc0c764e692a503f183d8cf5f8d4ef949af24d28254269f6", func := "faultline/faultlinelaw46.PhasesReads", spec := "phasesReads", unfollowed := true, recurses := true, apart := false, narrowed := true }
def PhasesReadsUptoSaid : Prop := phasesReadsUptoRow.holds Try.pinned (OpenSpec.upto phasesReadsSpec)

/-- 'faultlinelaw46.PhasesGrows', WHERE WHAT IT READS IS OF BULK AT MOST 1048576: true; the input reads as it did. -/
def phasesGrowsUptoRow : OpenClaim := { program := "ytonbnfgknijpoaa", sum := "694483fb013ba13efc0c764e692a503f183d8cf5f8d4ef949af24d28254269f6", func := "faultline/faultlinelaw46.PhasesGrows", spec := "phasesGrows", unfollowed := true, recurses := true, apart := false, narrowed := true }
def PhasesGrowsUptoSaid : Prop := phasesGrowsUptoRow.holds Try.pinned (OpenSpec.upto phasesGrowsSpec)

end Rows
end Go.Proofs.Ytonbnfgknijpoaa
