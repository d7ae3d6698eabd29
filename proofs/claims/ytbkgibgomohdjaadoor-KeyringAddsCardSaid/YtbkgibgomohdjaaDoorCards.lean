/-
  DERIVED. GIVEN WITH THE SEED: THE CARDS: each row of YtbkgibgomohdjaaDoorRows.lean that lists a variable, with what it lists TIED to the program's text (the seventh form; the later family's looks); each row that meets fmt, with fmt's text TOLD by the authors' own Lean function (tested against real Go, not proved from fmt's source: count such statements apart). THE CARD IS WHAT COUNTS. Prove the row's statement (the work); the ties are given (YtbkgibgomohdjaaDoorTie.lean); close each card by the builder's one call (the guide's Derived/Test/ToyasCard.lean, 'card_holds'). Laid BY PROGRAM, IN A SANDBOX (cutbox-door.mjs). By AI agents, Wed Nov 11 2026. No macro, syntax, notation, axiom, sorry.
-/
import Derived.Test.YtbkgibgomohdjaaDoorRows
import GoSem.ClaimSeven
namespace Go.Proofs.YtbkgibgomohdjaaDoor
namespace Rows

/-- THE TIED CARD OF 'bulletinlaw19.KeyringJudges'. -/
def keyringJudgesCard : Claim7 := { stood := { row := keyringJudgesRow, standIns := [], harness := (true, "c0ab8a36735131c8a9cd87cc07d7b40f6a8e739a1cb5823313f320602ea95481"), looks := false }, kinds := [], alts := [], laidByText := true, laidKinds := [.data], laidTests := true, laidLooks := .later }
def KeyringJudgesCardSaid : Prop := Claim7.holds Tryd.pinned (.plain (OpenSpec.ofChange keyringJudgesSpec)) keyringJudgesCard

/-- THE TIED CARD OF 'bulletinlaw19.KeyringOutsiders'. -/
def keyringOutsidersCard : Claim7 := { stood := { row := keyringOutsidersRow, standIns := [], harness := (true, "c0ab8a36735131c8a9cd87cc07d7b40f6a8e739a1cb5823313f320602ea95481"), looks := false }, kinds := [], alts := [], laidByText := true, laidKinds := [.data], laidTests := true, laidLooks := .later }
def KeyringOutsidersCardSaid : Prop := Claim7.holds Tryd.pinned (.plain (OpenSpec.ofChange keyringOutsidersSpec)) keyringOutsidersCard

/-- THE TIED CARD OF 'bulletinlaw19.KeyringHonest'. -/
def keyringHonestCard : Claim7 := { stood := { row := keyringHonestRow, standIns := [], harness := (true, "c0ab8a36735131c8a9cd87cc07d7b40f6a8e739a1cb5823313f320602ea95481"), looks := false }, kinds := [], alts := [], laidByText := true, laidKinds := [.data], laidTests := true, laidLooks := .later }
def KeyringHonestCardSaid : Prop := Claim7.holds Tryd.pinned (.plain (OpenSpec.ofChange keyringHonestSpec)) keyringHonestCard

/-- THE TIED CARD OF 'bulletinlaw19.KeyringOrder'. -/
def keyringOrderCard : Claim7 := { stood := { row := keyringOrderRow, standIns := [], harness := (true, "c0ab8a36735131c8a9cd87cc07d7b40f6a8e739a1cb5823313f320602ea95481"), looks := false }, kinds := [], alts := [], laidByText := true, laidKinds := [.data], laidTests := true, laidLooks := .later }
def KeyringOrderCardSaid : Prop := Claim7.holds Tryd.pinned (.plain (OpenSpec.ofChange keyringOrderSpec)) keyringOrderCard

/-- THE TIED CARD OF 'bulletinlaw19.KeyringClones'. -/
def keyringClonesCard : Claim7 := { stood := { row := keyringClonesRow, standIns := [], harness := (true, "c0ab8a36735131c8a9cd87cc07d7b40f6a8e739a1cb5823313f320602ea95481"), looks := false }, kinds := [], alts := [], laidByText := true, laidKinds := [.data], laidTests := true, laidLooks := .later }
def KeyringClonesCardSaid : Prop := Claim7.holds Tryd.pinned (.plain (OpenSpec.ofChange keyringClonesSpec)) keyringClonesCard

/-- THE TIED CARD OF 'bulletinlaw19.KeyringMerges'. -/
def keyringMergesCard : Claim7 := { stood := { row := keyringMergesRow, standIns := [], harness := (true, "c0ab8a36735131c8a9cd87cc07d7b40f6a8e739a1cb5823313f320602ea95481"), looks := false }, kinds := [], alts := [], laidByText := true, laidKinds := [.data], laidTests := true, laidLooks := .later }
def KeyringMergesCardSaid : Prop := Claim7.holds Tryd.pinned (.plain (OpenSpec.ofChange keyringMergesSpec)) keyringMergesCard

/-- THE TIED CARD OF 'bulletinlaw19.KeyringAdds'. -/
def keyringAddsCard : Claim7 := { stood := { row := keyringAddsRow, standIns := [], harness := (true, "c0ab8a36735131c8a9cd87cc07d7b40f6a8e739a1cb5823313f320602ea95481"), looks := false }, kinds := [], alts := [], laidByText := true, laidKinds := [.data], laidTests := true, laidLooks := .later }
def KeyringAddsCardSaid : Prop := Claim7.holds Tryd.pinned (.plain (OpenSpec.ofChange keyringAddsSpec)) keyringAddsCard

/-- THE TIED CARD OF 'bulletinlaw19.KeyringNil'. -/
def keyringNilCard : Claim7 := { stood := { row := keyringNilRow, standIns := [], harness := (true, "c0ab8a36735131c8a9cd87cc07d7b40f6a8e739a1cb5823313f320602ea95481"), looks := false }, kinds := [], alts := [], laidByText := true, laidKinds := [.data], laidTests := true, laidLooks := .later }
def KeyringNilCardSaid : Prop := Claim7.holds Tryd.pinned (.plain (OpenSpec.ofChange keyringNilSpec)) keyringNilCard

/-- THE SECOND FORM's CARD OF 'bulletinlaw19.KeyringJudges'. -/
def keyringJudgesUptoCard : Claim7 := { stood := { row := keyringJudgesUptoRow, standIns := [], harness := (true, "c0ab8a36735131c8a9cd87cc07d7b40f6a8e739a1cb5823313f320602ea95481"), looks := false }, kinds := [], alts := [], laidByText := true, laidKinds := [.data], laidTests := true, laidLooks := .later }
def KeyringJudgesUptoCardSaid : Prop := Claim7.holds Tryd.pinned (.plain (OpenSpec.upto keyringJudgesSpec)) keyringJudgesUptoCard

/-- THE SECOND FORM's CARD OF 'bulletinlaw19.KeyringOutsiders'. -/
def keyringOutsidersUptoCard : Claim7 := { stood := { row := keyringOutsidersUptoRow, standIns := [], harness := (true, "c0ab8a36735131c8a9cd87cc07d7b40f6a8e739a1cb5823313f320602ea95481"), looks := false }, kinds := [], alts := [], laidByText := true, laidKinds := [.data], laidTests := true, laidLooks := .later }
def KeyringOutsidersUptoCardSaid : Prop := Claim7.holds Tryd.pinned (.plain (OpenSpec.upto keyringOutsidersSpec)) keyringOutsidersUptoCard

/-- THE SECOND FORM's CARD OF 'bulletinlaw19.KeyringHonest'. -/
def keyringHonestUptoCard : Claim7 := { stood := { row := keyringHonestUptoRow, standIns := [], harness := (true, "c0ab8a36735131c8a9cd87cc07d7b40f6a8e739a1cb5823313f320602ea95481"), looks := false }, kinds := [], alts := [], laidByText := true, laidKinds := [.data], laidTests := true, laidLooks := .later }
def KeyringHonestUptoCardSaid : Prop := Claim7.holds Tryd.pinned (.plain (OpenSpec.upto keyringHonestSpec)) keyringHonestUptoCard

/-- THE SECOND FORM's CARD OF 'bulletinlaw19.KeyringOrder'. -/
def keyringOrderUptoCard : Claim7 := { stood := { row := keyringOrderUptoRow, standIns := [], harness := (true, "c0ab8a36735131c8a9cd87cc07d7b40f6a8e739a1cb5823313f320602ea95481"), looks := false }, kinds := [], alts := [], laidByText := true, laidKinds := [.data], laidTests := true, laidLooks := .later }
def KeyringOrderUptoCardSaid : Prop := Claim7.holds Tryd.pinned (.plain (OpenSpec.upto keyringOrderSpec)) keyringOrderUptoCard

/-- THE SECOND FORM's CARD OF 'bulletinlaw19.KeyringClones'. -/
def keyringClonesUptoCard : Claim7 := { stood := { row := keyringClonesUptoRow, standIns := [], harness := (true, "c0ab8a36735131c8a9cd87cc07d7b40f6a8e739a1cb5823313f320602ea95481"), looks := false }, kinds := [], alts := [], laidByText := true, laidKinds := [.data], laidTests := true, laidLooks := .later }
def KeyringClonesUptoCardSaid : Prop := Claim7.holds Tryd.pinned (.plain (OpenSpec.upto keyringClonesSpec)) keyringClonesUptoCard

/-- THE SECOND FORM's CARD OF 'bulletinlaw19.KeyringMerges'. -/
def keyringMergesUptoCard : Claim7 := { stood := { row := keyringMergesUptoRow, standIns := [], harness := (true, "c0ab8a36735131c8a9cd87cc07d7b40f6a8e739a1cb5823313f320602ea95481"), looks := false }, kinds := [], alts := [], laidByText := true, laidKinds := [.data], laidTests := true, laidLooks := .later }
def KeyringMergesUptoCardSaid : Prop := Claim7.holds Tryd.pinned (.plain (OpenSpec.upto keyringMergesSpec)) keyringMergesUptoCard

/-- THE SECOND FORM's CARD OF 'bulletinlaw19.KeyringAdds'. -/
def keyringAddsUptoCard : Claim7 := { stood := { row := keyringAddsUptoRow, standIns := [], harness := (true, "c0ab8a36735131c8a9cd87cc07d7b40f6a8e739a1cb5823313f320602ea95481"), looks := false }, kinds := [], alts := [], laidByText := true, laidKinds := [.data], laidTests := true, laidLooks := .later }
def KeyringAddsUptoCardSaid : Prop := Claim7.holds Tryd.pinned (.plain (OpenSpec.upto keyringAddsSpec)) keyringAddsUptoCard

/-- THE SECOND FORM's CARD OF 'bulletinlaw19.KeyringNil'. -/
def keyringNilUptoCard : Claim7 := { stood := { row := keyringNilUptoRow, standIns := [], harness := (true, "c0ab8a36735131c8a9cd87cc07d7b40f6a8e739a1cb5823313f320602ea95481"), looks := false }, kinds := [], alts := [], laidByText := true, laidKinds := [.data], laidTests := true, laidLooks := .later }
def KeyringNilUptoCardSaid : Prop := Claim7.holds Tryd.pinned (.plain (OpenSpec.upto keyringNilSpec)) keyringNilUptoCard
end Rows
end Go.Proofs.YtbkgibgomohdjaaDoor
