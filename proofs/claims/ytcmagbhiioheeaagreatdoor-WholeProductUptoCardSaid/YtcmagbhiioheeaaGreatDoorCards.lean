/-
  DERIVED. GIVEN WITH THE SEED: THE CARDS: each row of YtcmagbhiioheeaaGreatDoorRows.lean that lists a variable, with what it lists TIED to the program's text (the seventh form; the later family's looks); each row that meets fmt, with fmt's text TOLD by the authors' own Lean function (tested against real Go, not proved from fmt's source: count such statements apart). THE CARD IS WHAT COUNTS. Prove the row's statement (the work); the ties are given (YtcmagbhiioheeaaGreatDoorTie.lean); close each card by the builder's one call (the guide's Derived/Test/ToyasCard.lean, 'card_holds'). Laid BY PROGRAM, IN A SANDBOX (cutbox-door.mjs). By AI agents, Wed Nov 11 2026. No macro, syntax, notation, axiom, sorry.
-/
import Derived.Test.YtcmagbhiioheeaaGreatDoorRows
import GoSem.ClaimSeven
namespace Go.Proofs.YtcmagbhiioheeaaGreatDoor
namespace Rows

/-- THE TIED CARD OF 'faultlinetop.WholeProduct'. -/
def wholeProductCard : Claim7 := { stood := { row := wholeProductRow, standIns := [], harness := (true, "47274036f465d407160580306c0c4503efcb967bca67c24ad5fccfc67438f82e"), looks := true }, kinds := [], alts := [], laidByText := true, laidKinds := [.data, .pinned], laidTests := true, laidLooks := .later }
def WholeProductCardSaid : Prop := Claim7.holds Tryz.pinned (.plain (OpenSpec.ofChange wholeProductSpec)) wholeProductCard

/-- THE SECOND FORM's CARD OF 'faultlinetop.WholeProduct'. -/
def wholeProductUptoCard : Claim7 := { stood := { row := wholeProductUptoRow, standIns := [], harness := (true, "47274036f465d407160580306c0c4503efcb967bca67c24ad5fccfc67438f82e"), looks := true }, kinds := [], alts := [], laidByText := true, laidKinds := [.data, .pinned], laidTests := true, laidLooks := .later }
def WholeProductUptoCardSaid : Prop := Claim7.holds Tryz.pinned (.plain (OpenSpec.upto wholeProductSpec)) wholeProductUptoCard
end Rows
end Go.Proofs.YtcmagbhiioheeaaGreatDoor
