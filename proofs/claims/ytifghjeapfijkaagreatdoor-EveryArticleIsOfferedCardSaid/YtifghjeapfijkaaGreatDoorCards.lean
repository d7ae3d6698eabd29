/-
  DERIVED. GIVEN WITH THE SEED: THE CARDS: each row of YtifghjeapfijkaaGreatDoorRows.lean that lists a variable, with what it lists TIED to the program's text (the seventh form; the later family's looks); each row that meets fmt, with fmt's text TOLD by the authors' own Lean function (tested against real Go, not proved from fmt's source: count such statements apart). THE CARD IS WHAT COUNTS. Prove the row's statement (the work); the ties are given (YtifghjeapfijkaaGreatDoorTie.lean); close each card by the builder's one call (the guide's Derived/Test/ToyasCard.lean, 'card_holds'). Laid BY PROGRAM, IN A SANDBOX (cutbox-door.mjs). By AI agents, Wed Nov 11 2026. No macro, syntax, notation, axiom, sorry.
-/
import Derived.Test.YtifghjeapfijkaaGreatDoorRows
import GoSem.ClaimSeven
namespace Go.Proofs.YtifghjeapfijkaaGreatDoor
namespace Rows

/-- THE TIED CARD OF 'bulletintop.EveryArticleIsOffered'. -/
def everyArticleIsOfferedCard : Claim7 := { stood := { row := everyArticleIsOfferedRow, standIns := [], harness := (true, "02a4193d3383f90bdcde5d5f20c568ee5e911d052e8c41d1d01ddd9194264297"), looks := true }, kinds := [], alts := [], laidByText := true, laidKinds := [.data, .pinned], laidTests := true, laidLooks := .later }
def EveryArticleIsOfferedCardSaid : Prop := Claim7.holds Tryz.pinned (.plain (OpenSpec.ofChange everyArticleIsOfferedSpec)) everyArticleIsOfferedCard

/-- THE SECOND FORM's CARD OF 'bulletintop.EveryArticleIsOffered'. -/
def everyArticleIsOfferedUptoCard : Claim7 := { stood := { row := everyArticleIsOfferedUptoRow, standIns := [], harness := (true, "02a4193d3383f90bdcde5d5f20c568ee5e911d052e8c41d1d01ddd9194264297"), looks := true }, kinds := [], alts := [], laidByText := true, laidKinds := [.data, .pinned], laidTests := true, laidLooks := .later }
def EveryArticleIsOfferedUptoCardSaid : Prop := Claim7.holds Tryz.pinned (.plain (OpenSpec.upto everyArticleIsOfferedSpec)) everyArticleIsOfferedUptoCard
end Rows
end Go.Proofs.YtifghjeapfijkaaGreatDoor
