/-
  No cell of these rows narrows 'for every input' (looked for: loops, veiled, ifaces, maps, wideKeys, modest, calm, conditions, laid).
  DERIVED. THE GIVEN ROWS OF THIS SEAT. 11 by the template 'for every input the law returns true; each argument reads behind the call as it read before'; 0 by the template 'total and deterministic' (their statements: YtnjgdkfhgmebjaaGreatTotals.lean).
  GIVEN WITH THE SEED: the statements are not yours to turn. If you find one false, say at which input.
  Laid BY PROGRAM, IN A SANDBOX (cutbox-rows.mjs): the forced cells as the released guide's own fill.sh prints them over the translation 3fb63c6f52d1d32e… (all of the seat's roots in one cut). By AI agents, Wed Nov 11 2026. No macro, syntax, notation, axiom, sorry.
-/
import Derived.Test.YtnjgdkfhgmebjaaGreatChecked
import GoSem.Claim
import GoSem.ClaimJoined
import GoSem.ClaimMapViews
import Derived.JoinedTies
import Derived.KernelRfl
namespace Go.Proofs.YtnjgdkfhgmebjaaGreat
/- THE CELL 'sum', in the pinned program and in every row, IS THE sha256 OF THE DUMP (.gsa) THAT YtnjgdkfhgmebjaaGreatProg.lean LOADS. Nothing in Lean hashes anything: it is a label: what it is worth is what the hold of that sum in a sandbox is worth. -/
noncomputable def Tryz.pinned : Pinned := { name := "ytnjgdkfhgmebjaagreat", sum := "3fb63c6f52d1d32e38c19c57cf31b376ab09dc72789fae8de38acd027479fcf6", checked := Tryz.checked }
namespace Rows
def none {H : Type} : Left H := { results := [], args := [] }

/-- 'faultlinelaw45.CommonExpands': WHATEVER THE INPUT: true; the input reads as it did. -/
def commonExpandsSpec : ChangeSpec := { name := "commonExpands", fn := fun _ => fun
  | [d1, d2] => { results := [.lit (.bool true)], args := [d1, d2] }
  | _ => none }
def commonExpandsRow : OpenClaim := { program := "ytnjgdkfhgmebjaagreat", sum := "3fb63c6f52d1d32e38c19c57cf31b376ab09dc72789fae8de38acd027479fcf6", func := "faultline/faultlinelaw45.CommonExpands", spec := "commonExpands", unfollowed := true, recurses := true, plainKeys := false, apart := false }
def CommonExpandsSaid : Prop := commonExpandsRow.holds Tryz.pinned (OpenSpec.ofChange commonExpandsSpec)

/-- ITS FALSE NEIGHBOUR: 'it returns false'. Refute it at one input. -/
def commonExpandsWrong : ChangeSpec := { name := "commonExpands", fn := fun _ => fun
  | [d1, d2] => { results := [.lit (.bool false)], args := [d1, d2] }
  | _ => none }
def CommonExpandsWrongFalsely : Prop := commonExpandsRow.holds Tryz.pinned (OpenSpec.ofChange commonExpandsWrong)

/-- 'faultlinelaw45.CommonStrikes': WHATEVER THE INPUT: true; the input reads as it did. -/
def commonStrikesSpec : ChangeSpec := { name := "commonStrikes", fn := fun _ => fun
  | [d1, d2, d3] => { results := [.lit (.bool true)], args := [d1, d2, d3] }
  | _ => none }
def commonStrikesRow : OpenClaim := { program := "ytnjgdkfhgmebjaagreat", sum := "3fb63c6f52d1d32e38c19c57cf31b376ab09dc72789fae8de38acd027479fcf6", func := "faultline/faultlinelaw45.CommonStrikes", spec := "commonStrikes", unfollowed := true, recurses := true, plainKeys := false, apart := false }
def CommonStrikesSaid : Prop := commonStrikesRow.holds Tryz.pinned (OpenSpec.ofChange commonStrikesSpec)

/-- ITS FALSE NEIGHBOUR: 'it returns false'. Refute it at one input. -/
def commonStrikesWrong : ChangeSpec := { name := "commonStrikes", fn := fun _ => fun
  | [d1, d2, d3] => { results := [.lit (.bool false)], args := [d1, d2, d3] }
  | _ => none }
def CommonStrikesWrongFalsely : Prop := commonStrikesRow.holds Tryz.pinned (OpenSpec.ofChange commonStrikesWrong)

/-- 'faultlinelaw47.MissionEnumerates': WHATEVER THE INPUT: true; the input reads as it did. -/
def missionEnumeratesSpec : ChangeSpec := { name := "missionEnumerates", fn := fun _ => fun
  | [d] => { results := [.lit (.bool true)], args := [d] }
  | _ => none }
def missionEnumeratesRow : OpenClaim := { program := "ytnjgdkfhgmebjaagreat", sum := "3fb63c6f52d1d32e38c19c57cf31b376ab09dc72789fae8de38acd027479fcf6", func := "faultline/faultlinelaw47.MissionEnumerates", spec := "missionEnumerates", unfollowed := true, recurses := true, plainKeys := false, apart := false }
def MissionEnumeratesSaid : Prop := missionEnumeratesRow.holds Tryz.pinned (OpenSpec.ofChange missionEnumeratesSpec)

/-- ITS FALSE NEIGHBOUR: 'it returns false'. Refute it at one input. -/
def missionEnumeratesWrong : ChangeSpec := { name := "missionEnumerates", fn := fun _ => fun
  | [d] => { results := [.lit (.bool false)], args := [d] }
  | _ => none }
def MissionEnumeratesWrongFalsely : Prop := missionEnumeratesRow.holds Tryz.pinned (OpenSpec.ofChange missionEnumeratesWrong)

/-- 'faultlinelaw47.MissionFails': WHATEVER THE INPUT: true; the input reads as it did. -/
def missionFailsSpec : ChangeSpec := { name := "missionFails", fn := fun _ => fun
  | [d1, d2] => { results := [.lit (.bool true)], args := [d1, d2] }
  | _ => none }
def missionFailsRow : OpenClaim := { program := "ytnjgdkfhgmebjaagreat", sum := "3fb63c6f52d1d32e38c19c57cf31b376ab09dc72789fae8de38acd027479fcf6", func := "faultline/faultlinelaw47.MissionFails", spec := "missionFails", unfollowed := true, recurses := true, plainKeys := false, apart := false }
def MissionFailsSaid : Prop := missionFailsRow.holds Tryz.pinned (OpenSpec.ofChange missionFailsSpec)

/-- ITS FALSE NEIGHBOUR: 'it returns false'. Refute it at one input. -/
def missionFailsWrong : ChangeSpec := { name := "missionFails", fn := fun _ => fun
  | [d1, d2] => { results := [.lit (.bool false)], args := [d1, d2] }
  | _ => none }
def MissionFailsWrongFalsely : Prop := missionFailsRow.holds Tryz.pinned (OpenSpec.ofChange missionFailsWrong)

/-- 'faultlinelaw47.MissionWorth': WHATEVER THE INPUT: true; the input reads as it did. -/
def missionWorthSpec : ChangeSpec := { name := "missionWorth", fn := fun _ => fun
  | [d1, d2] => { results := [.lit (.bool true)], args := [d1, d2] }
  | _ => none }
def missionWorthRow : OpenClaim := { program := "ytnjgdkfhgmebjaagreat", sum := "3fb63c6f52d1d32e38c19c57cf31b376ab09dc72789fae8de38acd027479fcf6", func := "faultline/faultlinelaw47.MissionWorth", spec := "missionWorth", unfollowed := true, recurses := true, plainKeys := false, apart := false }
def MissionWorthSaid : Prop := missionWorthRow.holds Tryz.pinned (OpenSpec.ofChange missionWorthSpec)

/-- ITS FALSE NEIGHBOUR: 'it returns false'. Refute it at one input. -/
def missionWorthWrong : ChangeSpec := { name := "missionWorth", fn := fun _ => fun
  | [d1, d2] => { results := [.lit (.bool false)], args := [d1, d2] }
  | _ => none }
def MissionWorthWrongFalsely : Prop := missionWorthRow.holds Tryz.pinned (OpenSpec.ofChange missionWorthWrong)

/-- 'faultlinelaw47.MissionPhase': WHATEVER THE INPUT: true; the input reads as it did. -/
def missionPhaseSpec : ChangeSpec := { name := "missionPhase", fn := fun _ => fun
  | [d] => { results := [.lit (.bool true)], args := [d] }
  | _ => none }
def missionPhaseRow : OpenClaim := { program := "ytnjgdkfhgmebjaagreat", sum := "3fb63c6f52d1d32e38c19c57cf31b376ab09dc72789fae8de38acd027479fcf6", func := "faultline/faultlinelaw47.MissionPhase", spec := "missionPhase", unfollowed := true, recurses := true, plainKeys := false, apart := false }
def MissionPhaseSaid : Prop := missionPhaseRow.holds Tryz.pinned (OpenSpec.ofChange missionPhaseSpec)

/-- ITS FALSE NEIGHBOUR: 'it returns false'. Refute it at one input. -/
def missionPhaseWrong : ChangeSpec := { name := "missionPhase", fn := fun _ => fun
  | [d] => { results := [.lit (.bool false)], args := [d] }
  | _ => none }
def MissionPhaseWrongFalsely : Prop := missionPhaseRow.holds Tryz.pinned (OpenSpec.ofChange missionPhaseWrong)

/-- 'faultlinelaw47.MissionFirst': WHATEVER THE INPUT: true; the input reads as it did. -/
def missionFirstSpec : ChangeSpec := { name := "missionFirst", fn := fun _ => fun
  | [d1, d2] => { results := [.lit (.bool true)], args := [d1, d2] }
  | _ => none }
def missionFirstRow : OpenClaim := { program := "ytnjgdkfhgmebjaagreat", sum := "3fb63c6f52d1d32e38c19c57cf31b376ab09dc72789fae8de38acd027479fcf6", func := "faultline/faultlinelaw47.MissionFirst", spec := "missionFirst", unfollowed := true, recurses := true, plainKeys := false, apart := false }
def MissionFirstSaid : Prop := missionFirstRow.holds Tryz.pinned (OpenSpec.ofChange missionFirstSpec)

/-- ITS FALSE NEIGHBOUR: 'it returns false'. Refute it at one input. -/
def missionFirstWrong : ChangeSpec := { name := "missionFirst", fn := fun _ => fun
  | [d1, d2] => { results := [.lit (.bool false)], args := [d1, d2] }
  | _ => none }
def MissionFirstWrongFalsely : Prop := missionFirstRow.holds Tryz.pinned (OpenSpec.ofChange missionFirstWrong)

/-- 'faultlinelaw47.MissionSums': WHATEVER THE INPUT: true; the input reads as it did. -/
def missionSumsSpec : ChangeSpec := { name := "missionSums", fn := fun _ => fun
  | [d] => { results := [.lit (.bool true)], args := [d] }
  | _ => none }
def missionSumsRow : OpenClaim := { program := "ytnjgdkfhgmebjaagreat", sum := "3fb63c6f52d1d32e38c19c57cf31b376ab09dc72789fae8de38acd027479fcf6", func := "faultline/faultlinelaw47.MissionSums", spec := "missionSums", unfollowed := true, recurses := true, plainKeys := false, apart := false }
def MissionSumsSaid : Prop := missionSumsRow.holds Tryz.pinned (OpenSpec.ofChange missionSumsSpec)

/-- ITS FALSE NEIGHBOUR: 'it returns false'. Refute it at one input. -/
def missionSumsWrong : ChangeSpec := { name := "missionSums", fn := fun _ => fun
  | [d] => { results := [.lit (.bool false)], args := [d] }
  | _ => none }
def MissionSumsWrongFalsely : Prop := missionSumsRow.holds Tryz.pinned (OpenSpec.ofChange missionSumsWrong)

/-- 'faultlinelaw47.MissionHalves': WHATEVER THE INPUT: true; the input reads as it did. -/
def missionHalvesSpec : ChangeSpec := { name := "missionHalves", fn := fun _ => fun
  | [d1, d2, d3] => { results := [.lit (.bool true)], args := [d1, d2, d3] }
  | _ => none }
def missionHalvesRow : OpenClaim := { program := "ytnjgdkfhgmebjaagreat", sum := "3fb63c6f52d1d32e38c19c57cf31b376ab09dc72789fae8de38acd027479fcf6", func := "faultline/faultlinelaw47.MissionHalves", spec := "missionHalves", inPlace := ["slices.overlaps[faultline/api.Formula]", "slices.overlaps[faultline/api.Rat]"], unfollowed := true, recurses := true, plainKeys := false, apart := false }
def MissionHalvesSaid : Prop := missionHalvesRow.holds Tryz.pinned (OpenSpec.ofChange missionHalvesSpec)

/-- ITS FALSE NEIGHBOUR: 'it returns false'. Refute it at one input. -/
def missionHalvesWrong : ChangeSpec := { name := "missionHalves", fn := fun _ => fun
  | [d1, d2, d3] => { results := [.lit (.bool false)], args := [d1, d2, d3] }
  | _ => none }
def MissionHalvesWrongFalsely : Prop := missionHalvesRow.holds Tryz.pinned (OpenSpec.ofChange missionHalvesWrong)

/-- 'faultlinelaw47.MissionSplits': WHATEVER THE INPUT: true; the input reads as it did. -/
def missionSplitsSpec : ChangeSpec := { name := "missionSplits", fn := fun _ => fun
  | [d1, d2, d3] => { results := [.lit (.bool true)], args := [d1, d2, d3] }
  | _ => none }
def missionSplitsRow : OpenClaim := { program := "ytnjgdkfhgmebjaagreat", sum := "3fb63c6f52d1d32e38c19c57cf31b376ab09dc72789fae8de38acd027479fcf6", func := "faultline/faultlinelaw47.MissionSplits", spec := "missionSplits", inPlace := ["slices.overlaps[faultline/api.Formula]", "slices.overlaps[faultline/api.Rat]"], unfollowed := true, recurses := true, plainKeys := false, apart := false }
def MissionSplitsSaid : Prop := missionSplitsRow.holds Tryz.pinned (OpenSpec.ofChange missionSplitsSpec)

/-- ITS FALSE NEIGHBOUR: 'it returns false'. Refute it at one input. -/
def missionSplitsWrong : ChangeSpec := { name := "missionSplits", fn := fun _ => fun
  | [d1, d2, d3] => { results := [.lit (.bool false)], args := [d1, d2, d3] }
  | _ => none }
def MissionSplitsWrongFalsely : Prop := missionSplitsRow.holds Tryz.pinned (OpenSpec.ofChange missionSplitsWrong)

/-- 'faultlinetop.WholeCuts': WHATEVER THE INPUT: true; the input reads as it did. -/
def wholeCutsSpec : ChangeSpec := { name := "wholeCuts", fn := fun _ => fun
  | [d] => { results := [.lit (.bool true)], args := [d] }
  | _ => none }
def wholeCutsRow : OpenClaim := { program := "ytnjgdkfhgmebjaagreat", sum := "3fb63c6f52d1d32e38c19c57cf31b376ab09dc72789fae8de38acd027479fcf6", func := "faultline/faultlinetop.WholeCuts", spec := "wholeCuts", unfollowed := true, recurses := true, plainKeys := false, apart := false }
def WholeCutsSaid : Prop := wholeCutsRow.holds Tryz.pinned (OpenSpec.ofChange wholeCutsSpec)

/-- ITS FALSE NEIGHBOUR: 'it returns false'. Refute it at one input. -/
def wholeCutsWrong : ChangeSpec := { name := "wholeCuts", fn := fun _ => fun
  | [d] => { results := [.lit (.bool false)], args := [d] }
  | _ => none }
def WholeCutsWrongFalsely : Prop := wholeCutsRow.holds Tryz.pinned (OpenSpec.ofChange wholeCutsWrong)

/- THE SECOND FORM. 'bulk': how many values and letters a reading holds, each counted each time it is reached (what is shared counts as often as it is met; a slice's spare places count too). A statement '..UptoSaid' is the law's where the arguments, and the package variables that the reading takes, are together of bulk at most 1048576: NARROWER than '..Said'. Prove '..Said' where nothing that the law and all that it calls make is longer than what came in: it says more and counts as full. Else prove '..UptoSaid'. A law counts once. -/
mutual
def uptoBulk {H : Type} : DataW H → Nat
  | .lit (.string bytes) => bytes.length + 1
  | .lit _ => 1
  | .nil => 1
  | .ptr d => uptoBulk d + 1
  | .slice elems spare => uptoBulkAll elems + uptoBulkAll spare + 1
  | .agg parts => uptoBulkAll parts + 1
  | .iface _ d => uptoBulk d + 1
  | .map entries => uptoBulkEntries entries + 1
  | .held _ => 1
def uptoBulkAll {H : Type} : List (DataW H) → Nat
  | [] => 0
  | d :: r => uptoBulk d + uptoBulkAll r
def uptoBulkEntries {H : Type} : List (Lit × DataW H) → Nat
  | [] => 0
  | x :: r => uptoBulkEntry x + uptoBulkEntries r
def uptoBulkEntry {H : Type} : Lit × DataW H → Nat
  | (.string bytes, d) => bytes.length + uptoBulk d + 1
  | (_, d) => uptoBulk d + 1
 end
def uptoSmall : (H : Type) → List (DataW H) → Bool := fun _ ds => decide (uptoBulkAll ds ≤ 1048576)
def OpenSpec.upto (s : _root_.Go.ChangeSpec) : _root_.Go.OpenSpec := { _root_.Go.OpenSpec.ofChange s with cond := some uptoSmall }

/-- 'faultlinelaw45.CommonExpands', WHERE WHAT IT READS IS OF BULK AT MOST 1048576: true; the input reads as it did. -/
def commonExpandsUptoRow : OpenClaim := { program := "ytnjgdkfhgmebjaagreat", sum := "3fb63c6f52d1d32e38c19c57cf31b376ab09dc72789fae8de38acd027479fcf6", func := "faultline/faultlinelaw45.CommonExpands", spec := "commonExpands", unfollowed := true, recurses := true, plainKeys := false, apart := false, narrowed := true }
def CommonExpandsUptoSaid : Prop := commonExpandsUptoRow.holds Tryz.pinned (OpenSpec.upto commonExpandsSpec)

/-- 'faultlinelaw45.CommonStrikes', WHERE WHAT IT READS IS OF BULK AT MOST 1048576: true; the input reads as it did. -/
def commonStrikesUptoRow : OpenClaim := { program := "ytnjgdkfhgmebjaagreat", sum := "3fb63c6f52d1d32e38c19c57cf31b376ab09dc72789fae8de38acd027479fcf6", func := "faultline/faultlinelaw45.CommonStrikes", spec := "commonStrikes", unfollowed := true, recurses := true, plainKeys := false, apart := false, narrowed := true }
def CommonStrikesUptoSaid : Prop := commonStrikesUptoRow.holds Tryz.pinned (OpenSpec.upto commonStrikesSpec)

/-- 'faultlinelaw47.MissionEnumerates', WHERE WHAT IT READS IS OF BULK AT MOST 1048576: true; the input reads as it did. -/
def missionEnumeratesUptoRow : OpenClaim := { program := "ytnjgdkfhgmebjaagreat", sum := "3fb63c6f52d1d32e38c19c57cf31b376ab09dc72789fae8de38acd027479fcf6", func := "faultline/faultlinelaw47.MissionEnumerates", spec := "missionEnumerates", unfollowed := true, recurses := true, plainKeys := false, apart := false, narrowed := true }
def MissionEnumeratesUptoSaid : Prop := missionEnumeratesUptoRow.holds Tryz.pinned (OpenSpec.upto missionEnumeratesSpec)

/-- 'faultlinelaw47.MissionFails', WHERE WHAT IT READS IS OF BULK AT MOST 1048576: true; the input reads as it did. -/
def missionFailsUptoRow : OpenClaim := { program := "ytnjgdkfhgmebjaagreat", sum := "3fb63c6f52d1d32e38c19c57cf31b376ab09dc72789fae8de38acd027479fcf6", func := "faultline/faultlinelaw47.MissionFails", spec := "missionFails", unfollowed := true, recurses := true, plainKeys := false, apart := false, narrowed := true }
def MissionFailsUptoSaid : Prop := missionFailsUptoRow.holds Tryz.pinned (OpenSpec.upto missionFailsSpec)

/-- 'faultlinelaw47.MissionWorth', WHERE WHAT IT READS IS OF BULK AT MOST 1048576: true; the input reads as it did. -/
def missionWorthUptoRow : OpenClaim := { program := "ytnjgdkfhgmebjaagreat", sum := "3fb63c6f52d1d32e38c19c57cf31b376ab09dc72789fae8de38acd027479fcf6", func := "faultline/faultlinelaw47.MissionWorth", spec := "missionWorth", unfollowed := true, recurses := true, plainKeys := false, apart := false, narrowed := true }
def MissionWorthUptoSaid : Prop := missionWorthUptoRow.holds Tryz.pinned (OpenSpec.upto missionWorthSpec)

/-- 'faultlinelaw47.MissionPhase', WHERE WHAT IT READS IS OF BULK AT MOST 1048576: true; the input reads as it did. -/
def missionPhaseUptoRow : OpenClaim := { program := "ytnjgdkfhgmebjaagreat", sum := "3fb63c6f52d1d32e38c19c57cf31b376ab09dc72789fae8de38acd027479fcf6", func := "faultline/faultlinelaw47.MissionPhase", spec := "missionPhase", unfollowed := true, recurses := true, plainKeys := false, apart := false, narrowed := true }
def MissionPhaseUptoSaid : Prop := missionPhaseUptoRow.holds Tryz.pinned (OpenSpec.upto missionPhaseSpec)

/-- 'faultlinelaw47.MissionFirst', WHERE WHAT IT READS IS OF BULK AT MOST 1048576: true; the input reads as it did. -/
def missionFirstUptoRow : OpenClaim := { program := "ytnjgdkfhgmebjaagreat", sum := "3fb63c6f52d1d32e38c19c57cf31b376ab09dc72789fae8de38acd027479fcf6", func := "faultline/faultlinelaw47.MissionFirst", spec := "missionFirst", unfollowed := true, recurses := true, plainKeys := false, apart := false, narrowed := true }
def MissionFirstUptoSaid : Prop := missionFirstUptoRow.holds Tryz.pinned (OpenSpec.upto missionFirstSpec)

/-- 'faultlinelaw47.MissionSums', WHERE WHAT IT READS IS OF BULK AT MOST 1048576: true; the input reads as it did. -/
def missionSumsUptoRow : OpenClaim := { program := "ytnjgdkfhgmebjaagreat", sum := "3fb63c6f52d1d32e38c19c57cf31b376ab09dc72789fae8de38acd027479fcf6", func := "faultline/faultlinelaw47.MissionSums", spec := "missionSums", unfollowed := true, recurses := true, plainKeys := false, apart := false, narrowed := true }
def MissionSumsUptoSaid : Prop := missionSumsUptoRow.holds Tryz.pinned (OpenSpec.upto missionSumsSpec)

/-- 'faultlinelaw47.MissionHalves', WHERE WHAT IT READS IS OF BULK AT MOST 1048576: true; the input reads as it did. -/
def missionHalvesUptoRow : OpenClaim := { program := "ytnjgdkfhgmebjaagreat", sum := "3fb63c6f52d1d32e38c19c57cf31b376ab09dc72789fae8de38acd027479fcf6", func := "faultline/faultlinelaw47.MissionHalves", spec := "missionHalves", inPlace := ["slices.overlaps[faultline/api.Formula]", "slices.overlaps[faultline/api.Rat]"], unfollowed := true, recurses := true, plainKeys := false, apart := false, narrowed := true }
def MissionHalvesUptoSaid : Prop := missionHalvesUptoRow.holds Tryz.pinned (OpenSpec.upto missionHalvesSpec)

/-- 'faultlinelaw47.MissionSplits', WHERE WHAT IT READS IS OF BULK AT MOST 1048576: true; the input reads as it did. -/
def missionSplitsUptoRow : OpenClaim := { program := "ytnjgdkfhgmebjaagreat", sum := "3fb63c6f52d1d32e38c19c57cf31b376ab09dc72789fae8de38acd027479fcf6", func := "faultline/faultlinelaw47.MissionSplits", spec := "missionSplits", inPlace := ["slices.overlaps[faultline/api.Formula]", "slices.overlaps[faultline/api.Rat]"], unfollowed := true, recurses := true, plainKeys := false, apart := false, narrowed := true }
def MissionSplitsUptoSaid : Prop := missionSplitsUptoRow.holds Tryz.pinned (OpenSpec.upto missionSplitsSpec)

/-- 'faultlinetop.WholeCuts', WHERE WHAT IT READS IS OF BULK AT MOST 1048576: true; the input reads as it did. -/
def wholeCutsUptoRow : OpenClaim := { program := "ytnjgdkfhgmebjaagreat", sum := "3fb63c6f52d1d32e38c19c57cf31b376ab09dc72789fae8de38acd027479fcf6", func := "faultline/faultlinetop.WholeCuts", spec := "wholeCuts", unfollowed := true, recurses := true, plainKeys := false, apart := false, narrowed := true }
def WholeCutsUptoSaid : Prop := wholeCutsUptoRow.holds Tryz.pinned (OpenSpec.upto wholeCutsSpec)

end Rows
end Go.Proofs.YtnjgdkfhgmebjaaGreat
