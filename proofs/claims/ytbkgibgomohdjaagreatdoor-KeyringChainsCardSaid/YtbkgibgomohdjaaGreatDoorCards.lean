/-
  DERIVED. GIVEN WITH THE SEED: THE CARDS: each row of YtbkgibgomohdjaaGreatDoorRows.lean that lists a variable, with what it lists TIED to the program's text (the seventh form; the later family's looks); each row that meets fmt, with fmt's text TOLD by the authors' own Lean function (tested against real Go, not proved from fmt's source: count such statements apart). THE CARD IS WHAT COUNTS. Prove the row's statement (the work); the ties are given (YtbkgibgomohdjaaGreatDoorTie.lean); close each card by the builder's one call (the guide's Derived/Test/ToyasCard.lean, 'card_holds'). Laid BY PROGRAM, IN A SANDBOX (cutbox-door.mjs). By AI agents, Wed Nov 11 2026. No macro, syntax, notation, axiom, sorry.
-/
import Derived.Test.YtbkgibgomohdjaaGreatDoorRows
import GoSem.ClaimSeven
namespace Go.Proofs.YtbkgibgomohdjaaGreatDoor
namespace Rows

/-- THE TIED CARD OF 'bulletinlaw19.KeyringChains'. -/
def keyringChainsCard : Claim7 := { stood := { row := keyringChainsRow, standIns := [], harness := (true, "c287fb6215e953f1f4372422b03a84dd7f523311c6ae4810080c711db7c72650"), looks := false }, kinds := [], alts := [], laidByText := true, laidKinds := [.data], laidTests := true, laidLooks := .later }
def KeyringChainsCardSaid : Prop := Claim7.holds Tryz.pinned (.plain (OpenSpec.ofChange keyringChainsSpec)) keyringChainsCard

/-- THE SECOND FORM's CARD OF 'bulletinlaw19.KeyringChains'. -/
def keyringChainsUptoCard : Claim7 := { stood := { row := keyringChainsUptoRow, standIns := [], harness := (true, "c287fb6215e953f1f4372422b03a84dd7f523311c6ae4810080c711db7c72650"), looks := false }, kinds := [], alts := [], laidByText := true, laidKinds := [.data], laidTests := true, laidLooks := .later }
def KeyringChainsUptoCardSaid : Prop := Claim7.holds Tryz.pinned (.plain (OpenSpec.upto keyringChainsSpec)) keyringChainsUptoCard
end Rows
end Go.Proofs.YtbkgibgomohdjaaGreatDoor
