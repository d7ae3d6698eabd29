/-
  DERIVED. GIVEN WITH THE SEED: THE CARDS: each row of YtajbclcpkgenbaaDoorRows.lean that lists a variable, with what it lists TIED to the program's text (the seventh form; the later family's looks); each row that meets fmt, with fmt's text TOLD by the authors' own Lean function (tested against real Go, not proved from fmt's source: count such statements apart). THE CARD IS WHAT COUNTS. Prove the row's statement (the work); the ties are given (YtajbclcpkgenbaaDoorTie.lean); close each card by the builder's one call (the guide's Derived/Test/ToyasCard.lean, 'card_holds'). Laid BY PROGRAM, IN A SANDBOX (cutbox-door.mjs). By AI agents, Wed Nov 11 2026. No macro, syntax, notation, axiom, sorry.
-/
import Derived.Test.YtajbclcpkgenbaaDoorRows
import GoSem.ClaimSeven
namespace Go.Proofs.YtajbclcpkgenbaaDoor
namespace Rows

/-- THE TIED CARD OF 'bulletinlaw36.WindowOneByOne'. -/
def windowOneByOneCard : Claim7 := { stood := { row := windowOneByOneRow, standIns := [], harness := (true, "528cf9756be51d7108a31d58a47078c1c4b59c91fa320a11aaba2c24a43b3e31"), looks := false }, kinds := [], alts := [], laidByText := true, laidKinds := [.data], laidTests := true, laidLooks := .later }
def WindowOneByOneCardSaid : Prop := Claim7.holds Tryd.pinned (.plain (OpenSpec.ofChange windowOneByOneSpec)) windowOneByOneCard

/-- THE TIED CARD OF 'bulletinlaw36.WindowSizes'. -/
def windowSizesCard : Claim7 := { stood := { row := windowSizesRow, standIns := [], harness := (true, "528cf9756be51d7108a31d58a47078c1c4b59c91fa320a11aaba2c24a43b3e31"), looks := false }, kinds := [], alts := [], laidByText := true, laidKinds := [.data], laidTests := true, laidLooks := .later }
def WindowSizesCardSaid : Prop := Claim7.holds Tryd.pinned (.plain (OpenSpec.ofChange windowSizesSpec)) windowSizesCard

/-- THE TIED CARD OF 'bulletinlaw36.WindowBound'. -/
def windowBoundCard : Claim7 := { stood := { row := windowBoundRow, standIns := [], harness := (true, "528cf9756be51d7108a31d58a47078c1c4b59c91fa320a11aaba2c24a43b3e31"), looks := false }, kinds := [], alts := [], laidByText := true, laidKinds := [.data], laidTests := true, laidLooks := .later }
def WindowBoundCardSaid : Prop := Claim7.holds Tryd.pinned (.plain (OpenSpec.ofChange windowBoundSpec)) windowBoundCard

/-- THE TIED CARD OF 'bulletinlaw36.WindowOnce'. -/
def windowOnceCard : Claim7 := { stood := { row := windowOnceRow, standIns := [], harness := (true, "528cf9756be51d7108a31d58a47078c1c4b59c91fa320a11aaba2c24a43b3e31"), looks := false }, kinds := [], alts := [], laidByText := true, laidKinds := [.data], laidTests := true, laidLooks := .later }
def WindowOnceCardSaid : Prop := Claim7.holds Tryd.pinned (.plain (OpenSpec.ofChange windowOnceSpec)) windowOnceCard

/-- THE TIED CARD OF 'bulletinlaw36.WindowDrop'. -/
def windowDropCard : Claim7 := { stood := { row := windowDropRow, standIns := [], harness := (true, "528cf9756be51d7108a31d58a47078c1c4b59c91fa320a11aaba2c24a43b3e31"), looks := false }, kinds := [], alts := [], laidByText := true, laidKinds := [.data], laidTests := true, laidLooks := .later }
def WindowDropCardSaid : Prop := Claim7.holds Tryd.pinned (.plain (OpenSpec.ofChange windowDropSpec)) windowDropCard

/-- THE TIED CARD OF 'bulletinlaw36.WindowOperations'. -/
def windowOperationsCard : Claim7 := { stood := { row := windowOperationsRow, standIns := [], harness := (true, "528cf9756be51d7108a31d58a47078c1c4b59c91fa320a11aaba2c24a43b3e31"), looks := false }, kinds := [], alts := [], laidByText := true, laidKinds := [.data], laidTests := true, laidLooks := .later }
def WindowOperationsCardSaid : Prop := Claim7.holds Tryd.pinned (.plain (OpenSpec.ofChange windowOperationsSpec)) windowOperationsCard

/-- THE TIED CARD OF 'bulletinlaw36.WindowAnswers'. -/
def windowAnswersCard : Claim7 := { stood := { row := windowAnswersRow, standIns := [], harness := (true, "528cf9756be51d7108a31d58a47078c1c4b59c91fa320a11aaba2c24a43b3e31"), looks := false }, kinds := [], alts := [], laidByText := true, laidKinds := [.data], laidTests := true, laidLooks := .later }
def WindowAnswersCardSaid : Prop := Claim7.holds Tryd.pinned (.plain (OpenSpec.ofChange windowAnswersSpec)) windowAnswersCard

/-- THE TIED CARD OF 'bulletinlaw36.WindowClone'. -/
def windowCloneCard : Claim7 := { stood := { row := windowCloneRow, standIns := [], harness := (true, "528cf9756be51d7108a31d58a47078c1c4b59c91fa320a11aaba2c24a43b3e31"), looks := false }, kinds := [], alts := [], laidByText := true, laidKinds := [.data], laidTests := true, laidLooks := .later }
def WindowCloneCardSaid : Prop := Claim7.holds Tryd.pinned (.plain (OpenSpec.ofChange windowCloneSpec)) windowCloneCard

/-- THE TIED CARD OF 'bulletinlaw36.WindowNil'. -/
def windowNilCard : Claim7 := { stood := { row := windowNilRow, standIns := [], harness := (true, "528cf9756be51d7108a31d58a47078c1c4b59c91fa320a11aaba2c24a43b3e31"), looks := false }, kinds := [], alts := [], laidByText := true, laidKinds := [.data], laidTests := true, laidLooks := .later }
def WindowNilCardSaid : Prop := Claim7.holds Tryd.pinned (.plain (OpenSpec.ofChange windowNilSpec)) windowNilCard

/-- THE SECOND FORM's CARD OF 'bulletinlaw36.WindowOneByOne'. -/
def windowOneByOneUptoCard : Claim7 := { stood := { row := windowOneByOneUptoRow, standIns := [], harness := (true, "528cf9756be51d7108a31d58a47078c1c4b59c91fa320a11aaba2c24a43b3e31"), looks := false }, kinds := [], alts := [], laidByText := true, laidKinds := [.data], laidTests := true, laidLooks := .later }
def WindowOneByOneUptoCardSaid : Prop := Claim7.holds Tryd.pinned (.plain (OpenSpec.upto windowOneByOneSpec)) windowOneByOneUptoCard

/-- THE SECOND FORM's CARD OF 'bulletinlaw36.WindowSizes'. -/
def windowSizesUptoCard : Claim7 := { stood := { row := windowSizesUptoRow, standIns := [], harness := (true, "528cf9756be51d7108a31d58a47078c1c4b59c91fa320a11aaba2c24a43b3e31"), looks := false }, kinds := [], alts := [], laidByText := true, laidKinds := [.data], laidTests := true, laidLooks := .later }
def WindowSizesUptoCardSaid : Prop := Claim7.holds Tryd.pinned (.plain (OpenSpec.upto windowSizesSpec)) windowSizesUptoCard

/-- THE SECOND FORM's CARD OF 'bulletinlaw36.WindowBound'. -/
def windowBoundUptoCard : Claim7 := { stood := { row := windowBoundUptoRow, standIns := [], harness := (true, "528cf9756be51d7108a31d58a47078c1c4b59c91fa320a11aaba2c24a43b3e31"), looks := false }, kinds := [], alts := [], laidByText := true, laidKinds := [.data], laidTests := true, laidLooks := .later }
def WindowBoundUptoCardSaid : Prop := Claim7.holds Tryd.pinned (.plain (OpenSpec.upto windowBoundSpec)) windowBoundUptoCard

/-- THE SECOND FORM's CARD OF 'bulletinlaw36.WindowOnce'. -/
def windowOnceUptoCard : Claim7 := { stood := { row := windowOnceUptoRow, standIns := [], harness := (true, "528cf9756be51d7108a31d58a47078c1c4b59c91fa320a11aaba2c24a43b3e31"), looks := false }, kinds := [], alts := [], laidByText := true, laidKinds := [.data], laidTests := true, laidLooks := .later }
def WindowOnceUptoCardSaid : Prop := Claim7.holds Tryd.pinned (.plain (OpenSpec.upto windowOnceSpec)) windowOnceUptoCard

/-- THE SECOND FORM's CARD OF 'bulletinlaw36.WindowDrop'. -/
def windowDropUptoCard : Claim7 := { stood := { row := windowDropUptoRow, standIns := [], harness := (true, "528cf9756be51d7108a31d58a47078c1c4b59c91fa320a11aaba2c24a43b3e31"), looks := false }, kinds := [], alts := [], laidByText := true, laidKinds := [.data], laidTests := true, laidLooks := .later }
def WindowDropUptoCardSaid : Prop := Claim7.holds Tryd.pinned (.plain (OpenSpec.upto windowDropSpec)) windowDropUptoCard

/-- THE SECOND FORM's CARD OF 'bulletinlaw36.WindowOperations'. -/
def windowOperationsUptoCard : Claim7 := { stood := { row := windowOperationsUptoRow, standIns := [], harness := (true, "528cf9756be51d7108a31d58a47078c1c4b59c91fa320a11aaba2c24a43b3e31"), looks := false }, kinds := [], alts := [], laidByText := true, laidKinds := [.data], laidTests := true, laidLooks := .later }
def WindowOperationsUptoCardSaid : Prop := Claim7.holds Tryd.pinned (.plain (OpenSpec.upto windowOperationsSpec)) windowOperationsUptoCard

/-- THE SECOND FORM's CARD OF 'bulletinlaw36.WindowAnswers'. -/
def windowAnswersUptoCard : Claim7 := { stood := { row := windowAnswersUptoRow, standIns := [], harness := (true, "528cf9756be51d7108a31d58a47078c1c4b59c91fa320a11aaba2c24a43b3e31"), looks := false }, kinds := [], alts := [], laidByText := true, laidKinds := [.data], laidTests := true, laidLooks := .later }
def WindowAnswersUptoCardSaid : Prop := Claim7.holds Tryd.pinned (.plain (OpenSpec.upto windowAnswersSpec)) windowAnswersUptoCard

/-- THE SECOND FORM's CARD OF 'bulletinlaw36.WindowClone'. -/
def windowCloneUptoCard : Claim7 := { stood := { row := windowCloneUptoRow, standIns := [], harness := (true, "528cf9756be51d7108a31d58a47078c1c4b59c91fa320a11aaba2c24a43b3e31"), looks := false }, kinds := [], alts := [], laidByText := true, laidKinds := [.data], laidTests := true, laidLooks := .later }
def WindowCloneUptoCardSaid : Prop := Claim7.holds Tryd.pinned (.plain (OpenSpec.upto windowCloneSpec)) windowCloneUptoCard

/-- THE SECOND FORM's CARD OF 'bulletinlaw36.WindowNil'. -/
def windowNilUptoCard : Claim7 := { stood := { row := windowNilUptoRow, standIns := [], harness := (true, "528cf9756be51d7108a31d58a47078c1c4b59c91fa320a11aaba2c24a43b3e31"), looks := false }, kinds := [], alts := [], laidByText := true, laidKinds := [.data], laidTests := true, laidLooks := .later }
def WindowNilUptoCardSaid : Prop := Claim7.holds Tryd.pinned (.plain (OpenSpec.upto windowNilSpec)) windowNilUptoCard
end Rows
end Go.Proofs.YtajbclcpkgenbaaDoor
