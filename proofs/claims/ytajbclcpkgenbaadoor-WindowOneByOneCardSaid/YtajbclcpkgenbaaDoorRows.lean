/-
  NARROWER THAN 'FOR EVERY INPUT', by the rows' own cells (each row's printed sentence says how): WindowOneByOne: laid · WindowSizes: laid · WindowBound: laid · WindowOnce: laid · WindowDrop: laid · WindowOperations: laid · WindowAnswers: laid · WindowClone: laid · WindowNil: laid.
  DERIVED. THE GIVEN ROWS OF THIS SEAT. 9 by the template 'for every input the law returns true; each argument reads behind the call as it read before'; 0 by the template 'total and deterministic' (their statements: YtajbclcpkgenbaaDoorTotals.lean).
  GIVEN WITH THE SEED: the statements are not yours to turn. If you find one false, say at which input.
  Laid BY PROGRAM, IN A SANDBOX (cutbox-rows.mjs): the forced cells as the released guide's own fill.sh prints them over the translation ad36043bc9330e1b… (all of the seat's roots in one cut). By AI agents, Wed Nov 11 2026. No macro, syntax, notation, axiom, sorry.
-/
import Derived.Test.YtajbclcpkgenbaaDoorChecked
import GoSem.Claim
import GoSem.ClaimJoined
import GoSem.ClaimMapViews
import Derived.JoinedTies
import Derived.KernelRfl
namespace Go.Proofs.YtajbclcpkgenbaaDoor
/- THE CELL 'sum', in the pinned program and in every row, IS THE sha256 OF THE DUMP (.gsa) THAT YtajbclcpkgenbaaDoorProg.lean LOADS. Nothing in Lean hashes anything: it is a label: what it is worth is what the hold of that sum in a sandbox is worth. -/
noncomputable def Tryd.pinned : Pinned := { name := "ytajbclcpkgenbaadoor", sum := "ad36043bc9330e1b04d987eaf85cdcd5253345b9b2289d2a91cb49e13978e7f5", checked := Tryd.checked }
namespace Rows
def none {H : Type} : Left H := { results := [], args := [] }

/- WHAT THE LISTED PACKAGE-LEVEL VARIABLES READ AS WHEN THE CALL BEGINS. Each datum BY PROGRAM (the guide's laid-datum.mjs) off the statement by which the dump's own 'gosem.cut.vars' lays the variable. In a bare row this is a premise. The card (YtajbclcpkgenbaaDoorCards.lean) ties it to the program's text. -/
def laid_bulletin_window_changes {H : Type} : DataW H := .agg [.agg [.lit (.bool false), .lit (.bool true), .lit (.bool false), .lit (.bool true), .lit (.bool true), .lit (.bool true)], .agg [.lit (.bool false), .lit (.bool false), .lit (.bool true), .lit (.bool false), .lit (.bool true), .lit (.bool true)], .agg [.lit (.bool false), .lit (.bool false), .lit (.bool false), .lit (.bool false), .lit (.bool false), .lit (.bool false)], .agg [.lit (.bool false), .lit (.bool false), .lit (.bool false), .lit (.bool false), .lit (.bool false), .lit (.bool false)], .agg [.lit (.bool false), .lit (.bool false), .lit (.bool false), .lit (.bool false), .lit (.bool false), .lit (.bool false)], .agg [.lit (.bool false), .lit (.bool false), .lit (.bool false), .lit (.bool false), .lit (.bool false), .lit (.bool false)]]

/-- 'bulletinlaw36.WindowOneByOne': WHATEVER THE INPUT: true; the input reads as it did. -/
def windowOneByOneSpec : ChangeSpec := { name := "windowOneByOne", fn := fun _ => fun
  | [d1, d2, d3] => { results := [.lit (.bool true)], args := [d1, d2, d3] }
  | _ => none }
def windowOneByOneRow : OpenClaim := { program := "ytajbclcpkgenbaadoor", sum := "ad36043bc9330e1b04d987eaf85cdcd5253345b9b2289d2a91cb49e13978e7f5", func := "bulletin/bulletinlaw36.WindowOneByOne", spec := "windowOneByOne", unfollowed := true, recurses := true, named := ["bulletin/window.changes"], plainKeys := false, apart := false, laid := [("bulletin/window.changes", laid_bulletin_window_changes)] }
def WindowOneByOneSaid : Prop := windowOneByOneRow.holds Tryd.pinned (OpenSpec.ofChange windowOneByOneSpec)

/-- ITS FALSE NEIGHBOUR: 'it returns false'. Refute it at one input. -/
def windowOneByOneWrong : ChangeSpec := { name := "windowOneByOne", fn := fun _ => fun
  | [d1, d2, d3] => { results := [.lit (.bool false)], args := [d1, d2, d3] }
  | _ => none }
def WindowOneByOneWrongFalsely : Prop := windowOneByOneRow.holds Tryd.pinned (OpenSpec.ofChange windowOneByOneWrong)

/-- 'bulletinlaw36.WindowSizes': WHATEVER THE INPUT: true; the input reads as it did. -/
def windowSizesSpec : ChangeSpec := { name := "windowSizes", fn := fun _ => fun
  | [d] => { results := [.lit (.bool true)], args := [d] }
  | _ => none }
def windowSizesRow : OpenClaim := { program := "ytajbclcpkgenbaadoor", sum := "ad36043bc9330e1b04d987eaf85cdcd5253345b9b2289d2a91cb49e13978e7f5", func := "bulletin/bulletinlaw36.WindowSizes", spec := "windowSizes", unfollowed := true, recurses := true, named := ["bulletin/window.changes"], plainKeys := false, apart := false, laid := [("bulletin/window.changes", laid_bulletin_window_changes)] }
def WindowSizesSaid : Prop := windowSizesRow.holds Tryd.pinned (OpenSpec.ofChange windowSizesSpec)

/-- ITS FALSE NEIGHBOUR: 'it returns false'. Refute it at one input. -/
def windowSizesWrong : ChangeSpec := { name := "windowSizes", fn := fun _ => fun
  | [d] => { results := [.lit (.bool false)], args := [d] }
  | _ => none }
def WindowSizesWrongFalsely : Prop := windowSizesRow.holds Tryd.pinned (OpenSpec.ofChange windowSizesWrong)

/-- 'bulletinlaw36.WindowBound': WHATEVER THE INPUT: true; the input reads as it did. -/
def windowBoundSpec : ChangeSpec := { name := "windowBound", fn := fun _ => fun
  | [d1, d2] => { results := [.lit (.bool true)], args := [d1, d2] }
  | _ => none }
def windowBoundRow : OpenClaim := { program := "ytajbclcpkgenbaadoor", sum := "ad36043bc9330e1b04d987eaf85cdcd5253345b9b2289d2a91cb49e13978e7f5", func := "bulletin/bulletinlaw36.WindowBound", spec := "windowBound", unfollowed := true, recurses := true, named := ["bulletin/window.changes"], plainKeys := false, apart := false, laid := [("bulletin/window.changes", laid_bulletin_window_changes)] }
def WindowBoundSaid : Prop := windowBoundRow.holds Tryd.pinned (OpenSpec.ofChange windowBoundSpec)

/-- ITS FALSE NEIGHBOUR: 'it returns false'. Refute it at one input. -/
def windowBoundWrong : ChangeSpec := { name := "windowBound", fn := fun _ => fun
  | [d1, d2] => { results := [.lit (.bool false)], args := [d1, d2] }
  | _ => none }
def WindowBoundWrongFalsely : Prop := windowBoundRow.holds Tryd.pinned (OpenSpec.ofChange windowBoundWrong)

/-- 'bulletinlaw36.WindowOnce': WHATEVER THE INPUT: true; the input reads as it did. -/
def windowOnceSpec : ChangeSpec := { name := "windowOnce", fn := fun _ => fun
  | [d1, d2] => { results := [.lit (.bool true)], args := [d1, d2] }
  | _ => none }
def windowOnceRow : OpenClaim := { program := "ytajbclcpkgenbaadoor", sum := "ad36043bc9330e1b04d987eaf85cdcd5253345b9b2289d2a91cb49e13978e7f5", func := "bulletin/bulletinlaw36.WindowOnce", spec := "windowOnce", unfollowed := true, recurses := true, named := ["bulletin/window.changes"], plainKeys := false, apart := false, laid := [("bulletin/window.changes", laid_bulletin_window_changes)] }
def WindowOnceSaid : Prop := windowOnceRow.holds Tryd.pinned (OpenSpec.ofChange windowOnceSpec)

/-- ITS FALSE NEIGHBOUR: 'it returns false'. Refute it at one input. -/
def windowOnceWrong : ChangeSpec := { name := "windowOnce", fn := fun _ => fun
  | [d1, d2] => { results := [.lit (.bool false)], args := [d1, d2] }
  | _ => none }
def WindowOnceWrongFalsely : Prop := windowOnceRow.holds Tryd.pinned (OpenSpec.ofChange windowOnceWrong)

/-- 'bulletinlaw36.WindowDrop': WHATEVER THE INPUT: true; the input reads as it did. -/
def windowDropSpec : ChangeSpec := { name := "windowDrop", fn := fun _ => fun
  | [d1, d2] => { results := [.lit (.bool true)], args := [d1, d2] }
  | _ => none }
def windowDropRow : OpenClaim := { program := "ytajbclcpkgenbaadoor", sum := "ad36043bc9330e1b04d987eaf85cdcd5253345b9b2289d2a91cb49e13978e7f5", func := "bulletin/bulletinlaw36.WindowDrop", spec := "windowDrop", unfollowed := true, recurses := true, named := ["bulletin/window.changes"], plainKeys := false, apart := false, laid := [("bulletin/window.changes", laid_bulletin_window_changes)] }
def WindowDropSaid : Prop := windowDropRow.holds Tryd.pinned (OpenSpec.ofChange windowDropSpec)

/-- ITS FALSE NEIGHBOUR: 'it returns false'. Refute it at one input. -/
def windowDropWrong : ChangeSpec := { name := "windowDrop", fn := fun _ => fun
  | [d1, d2] => { results := [.lit (.bool false)], args := [d1, d2] }
  | _ => none }
def WindowDropWrongFalsely : Prop := windowDropRow.holds Tryd.pinned (OpenSpec.ofChange windowDropWrong)

/-- 'bulletinlaw36.WindowOperations': WHATEVER THE INPUT: true; the input reads as it did. -/
def windowOperationsSpec : ChangeSpec := { name := "windowOperations", fn := fun _ => fun
  | [d1, d2] => { results := [.lit (.bool true)], args := [d1, d2] }
  | _ => none }
def windowOperationsRow : OpenClaim := { program := "ytajbclcpkgenbaadoor", sum := "ad36043bc9330e1b04d987eaf85cdcd5253345b9b2289d2a91cb49e13978e7f5", func := "bulletin/bulletinlaw36.WindowOperations", spec := "windowOperations", unfollowed := true, recurses := true, named := ["bulletin/window.changes"], plainKeys := false, apart := false, laid := [("bulletin/window.changes", laid_bulletin_window_changes)] }
def WindowOperationsSaid : Prop := windowOperationsRow.holds Tryd.pinned (OpenSpec.ofChange windowOperationsSpec)

/-- ITS FALSE NEIGHBOUR: 'it returns false'. Refute it at one input. -/
def windowOperationsWrong : ChangeSpec := { name := "windowOperations", fn := fun _ => fun
  | [d1, d2] => { results := [.lit (.bool false)], args := [d1, d2] }
  | _ => none }
def WindowOperationsWrongFalsely : Prop := windowOperationsRow.holds Tryd.pinned (OpenSpec.ofChange windowOperationsWrong)

/-- 'bulletinlaw36.WindowAnswers': WHATEVER THE INPUT: true; the input reads as it did. -/
def windowAnswersSpec : ChangeSpec := { name := "windowAnswers", fn := fun _ => fun
  | [d1, d2, d3, d4] => { results := [.lit (.bool true)], args := [d1, d2, d3, d4] }
  | _ => none }
def windowAnswersRow : OpenClaim := { program := "ytajbclcpkgenbaadoor", sum := "ad36043bc9330e1b04d987eaf85cdcd5253345b9b2289d2a91cb49e13978e7f5", func := "bulletin/bulletinlaw36.WindowAnswers", spec := "windowAnswers", unfollowed := true, recurses := true, named := ["bulletin/window.changes"], plainKeys := false, apart := false, laid := [("bulletin/window.changes", laid_bulletin_window_changes)] }
def WindowAnswersSaid : Prop := windowAnswersRow.holds Tryd.pinned (OpenSpec.ofChange windowAnswersSpec)

/-- ITS FALSE NEIGHBOUR: 'it returns false'. Refute it at one input. -/
def windowAnswersWrong : ChangeSpec := { name := "windowAnswers", fn := fun _ => fun
  | [d1, d2, d3, d4] => { results := [.lit (.bool false)], args := [d1, d2, d3, d4] }
  | _ => none }
def WindowAnswersWrongFalsely : Prop := windowAnswersRow.holds Tryd.pinned (OpenSpec.ofChange windowAnswersWrong)

/-- 'bulletinlaw36.WindowClone': WHATEVER THE INPUT: true; the input reads as it did. -/
def windowCloneSpec : ChangeSpec := { name := "windowClone", fn := fun _ => fun
  | [d1, d2, d3] => { results := [.lit (.bool true)], args := [d1, d2, d3] }
  | _ => none }
def windowCloneRow : OpenClaim := { program := "ytajbclcpkgenbaadoor", sum := "ad36043bc9330e1b04d987eaf85cdcd5253345b9b2289d2a91cb49e13978e7f5", func := "bulletin/bulletinlaw36.WindowClone", spec := "windowClone", unfollowed := true, recurses := true, named := ["bulletin/window.changes"], plainKeys := false, apart := false, laid := [("bulletin/window.changes", laid_bulletin_window_changes)] }
def WindowCloneSaid : Prop := windowCloneRow.holds Tryd.pinned (OpenSpec.ofChange windowCloneSpec)

/-- ITS FALSE NEIGHBOUR: 'it returns false'. Refute it at one input. -/
def windowCloneWrong : ChangeSpec := { name := "windowClone", fn := fun _ => fun
  | [d1, d2, d3] => { results := [.lit (.bool false)], args := [d1, d2, d3] }
  | _ => none }
def WindowCloneWrongFalsely : Prop := windowCloneRow.holds Tryd.pinned (OpenSpec.ofChange windowCloneWrong)

/-- 'bulletinlaw36.WindowNil': WHATEVER THE INPUT: true; the input reads as it did. -/
def windowNilSpec : ChangeSpec := { name := "windowNil", fn := fun _ => fun
  | [d1, d2] => { results := [.lit (.bool true)], args := [d1, d2] }
  | _ => none }
def windowNilRow : OpenClaim := { program := "ytajbclcpkgenbaadoor", sum := "ad36043bc9330e1b04d987eaf85cdcd5253345b9b2289d2a91cb49e13978e7f5", func := "bulletin/bulletinlaw36.WindowNil", spec := "windowNil", unfollowed := true, recurses := true, named := ["bulletin/window.changes"], plainKeys := false, apart := false, laid := [("bulletin/window.changes", laid_bulletin_window_changes)] }
def WindowNilSaid : Prop := windowNilRow.holds Tryd.pinned (OpenSpec.ofChange windowNilSpec)

/-- ITS FALSE NEIGHBOUR: 'it returns false'. Refute it at one input. -/
def windowNilWrong : ChangeSpec := { name := "windowNil", fn := fun _ => fun
  | [d1, d2] => { results := [.lit (.bool false)], args := [d1, d2] }
  | _ => none }
def WindowNilWrongFalsely : Prop := windowNilRow.holds Tryd.pinned (OpenSpec.ofChange windowNilWrong)

/- THE SECOND FORM. 'bulk': how many values and letters a reading holds, each counted each time it is reached (what is shared counts as often as it is met; a slice's spare places count too). A statement '..UptoSaid' is the law's where the arguments, and the package variables that the reading takes, are together of bulk at most 1048576: NARROWER than '..Said'. Prove '..Said' where nothing that the law and all that it calls make is longer than what came in: it says more and counts as full. Else prove '..UptoSaid'. A law counts once. -/
mutual
def uptoBulk {H : Type} : DataW H → Nat
  | .lit (.string bytes) => bytes.length + 1
  | .lit _ => 1
  | .nil => 1
  | .ptr d => uptoBulk d + 1
  | .slice elems spare => uptoBulkAll elems + uptoBulkAll spare + 1
  | .agg parts => uptoBulkAll parts + 1
  | .iface _ d => uptoBulk d + 1
  | .map entries => uptoBulkEntries entries + 1
  | .held _ => 1
def uptoBulkAll {H : Type} : List (DataW H) → Nat
  | [] => 0
  | d :: r => uptoBulk d + uptoBulkAll r
def uptoBulkEntries {H : Type} : List (Lit × DataW H) → Nat
  | [] => 0
  | x :: r => uptoBulkEntry x + uptoBulkEntries r
def uptoBulkEntry {H : Type} : Lit × DataW H → Nat
  | (.string bytes, d) => bytes.length + uptoBulk d + 1
  | (_, d) => uptoBulk d + 1
 end
def uptoSmall : (H : Type) → List (DataW H) → Bool := fun _ ds => decide (uptoBulkAll ds ≤ 1048576)
def OpenSpec.upto (s : _root_.Go.ChangeSpec) : _root_.Go.OpenSpec := { _root_.Go.OpenSpec.ofChange s with cond := some uptoSmall }

/-- 'bulletinlaw36.WindowOneByOne', WHERE WHAT IT READS IS OF BULK AT MOST 1048576: true; the input reads as it did. -/
def windowOneByOneUptoRow : OpenClaim := { program := "ytajbclcpkgenbaadoor", sum := "ad36043bc9330e1b04d987eaf85cdcd5253345b9b2289d2a91cb49e13978e7f5", func := "bulletin/bulletinlaw36.WindowOneByOne", spec := "windowOneByOne", unfollowed := true, recurses := true, named := ["bulletin/window.changes"], plainKeys := false, apart := false, laid := [("bulletin/window.changes", laid_bulletin_window_changes)], narrowed := true }
def WindowOneByOneUptoSaid : Prop := windowOneByOneUptoRow.holds Tryd.pinned (OpenSpec.upto windowOneByOneSpec)

/-- 'bulletinlaw36.WindowSizes', WHERE WHAT IT READS IS OF BULK AT MOST 1048576: true; the input reads as it did. -/
def windowSizesUptoRow : OpenClaim := { program := "ytajbclcpkgenbaadoor", sum := "ad36043bc9330e1b04d987eaf85cdcd5253345b9b2289d2a91cb49e13978e7f5", func := "bulletin/bulletinlaw36.WindowSizes", spec := "windowSizes", unfollowed := true, recurses := true, named := ["bulletin/window.changes"], plainKeys := false, apart := false, laid := [("bulletin/window.changes", laid_bulletin_window_changes)], narrowed := true }
def WindowSizesUptoSaid : Prop := windowSizesUptoRow.holds Tryd.pinned (OpenSpec.upto windowSizesSpec)

/-- 'bulletinlaw36.WindowBound', WHERE WHAT IT READS IS OF BULK AT MOST 1048576: true; the input reads as it did. -/
def windowBoundUptoRow : OpenClaim := { program := "ytajbclcpkgenbaadoor", sum := "ad36043bc9330e1b04d987eaf85cdcd5253345b9b2289d2a91cb49e13978e7f5", func := "bulletin/bulletinlaw36.WindowBound", spec := "windowBound", unfollowed := true, recurses := true, named := ["bulletin/window.changes"], plainKeys := false, apart := false, laid := [("bulletin/window.changes", laid_bulletin_window_changes)], narrowed := true }
def WindowBoundUptoSaid : Prop := windowBoundUptoRow.holds Tryd.pinned (OpenSpec.upto windowBoundSpec)

/-- 'bulletinlaw36.WindowOnce', WHERE WHAT IT READS IS OF BULK AT MOST 1048576: true; the input reads as it did. -/
def windowOnceUptoRow : OpenClaim := { program := "ytajbclcpkgenbaadoor", sum := "ad36043bc9330e1b04d987eaf85cdcd5253345b9b2289d2a91cb49e13978e7f5", func := "bulletin/bulletinlaw36.WindowOnce", spec := "windowOnce", unfollowed := true, recurses := true, named := ["bulletin/window.changes"], plainKeys := false, apart := false, laid := [("bulletin/window.changes", laid_bulletin_window_changes)], narrowed := true }
def WindowOnceUptoSaid : Prop := windowOnceUptoRow.holds Tryd.pinned (OpenSpec.upto windowOnceSpec)

/-- 'bulletinlaw36.WindowDrop', WHERE WHAT IT READS IS OF BULK AT MOST 1048576: true; the input reads as it did. -/
def windowDropUptoRow : OpenClaim := { program := "ytajbclcpkgenbaadoor", sum := "ad36043bc9330e1b04d987eaf85cdcd5253345b9b2289d2a91cb49e13978e7f5", func := "bulletin/bulletinlaw36.WindowDrop", spec := "windowDrop", unfollowed := true, recurses := true, named := ["bulletin/window.changes"], plainKeys := false, apart := false, laid := [("bulletin/window.changes", laid_bulletin_window_changes)], narrowed := true }
def WindowDropUptoSaid : Prop := windowDropUptoRow.holds Tryd.pinned (OpenSpec.upto windowDropSpec)

/-- 'bulletinlaw36.WindowOperations', WHERE WHAT IT READS IS OF BULK AT MOST 1048576: true; the input reads as it did. -/
def windowOperationsUptoRow : OpenClaim := { program := "ytajbclcpkgenbaadoor", sum := "ad36043bc9330e1b04d987eaf85cdcd5253345b9b2289d2a91cb49e13978e7f5", func := "bulletin/bulletinlaw36.WindowOperations", spec := "windowOperations", unfollowed := true, recurses := true, named := ["bulletin/window.changes"], plainKeys := false, apart := false, laid := [("bulletin/window.changes", laid_bulletin_window_changes)], narrowed := true }
def WindowOperationsUptoSaid : Prop := windowOperationsUptoRow.holds Tryd.pinned (OpenSpec.upto windowOperationsSpec)

/-- 'bulletinlaw36.WindowAnswers', WHERE WHAT IT READS IS OF BULK AT MOST 1048576: true; the input reads as it did. -/
def windowAnswersUptoRow : OpenClaim := { program := "ytajbclcpkgenbaadoor", sum := "ad36043bc9330e1b04d987eaf85cdcd5253345b9b2289d2a91cb49e13978e7f5", func := "bulletin/bulletinlaw36.WindowAnswers", spec := "windowAnswers", unfollowed := true, recurses := true, named := ["bulletin/window.changes"], plainKeys := false, apart := false, laid := [("bulletin/window.changes", laid_bulletin_window_changes)], narrowed := true }
def WindowAnswersUptoSaid : Prop := windowAnswersUptoRow.holds Tryd.pinned (OpenSpec.upto windowAnswersSpec)

/-- 'bulletinlaw36.WindowClone', WHERE WHAT IT READS IS OF BULK AT MOST 1048576: true; the input reads as it did. -/
def windowCloneUptoRow : OpenClaim := { program := "ytajbclcpkgenbaadoor", sum := "ad36043bc9330e1b04d987eaf85cdcd5253345b9b2289d2a91cb49e13978e7f5", func := "bulletin/bulletinlaw36.WindowClone", spec := "windowClone", unfollowed := true, recurses := true, named := ["bulletin/window.changes"], plainKeys := false, apart := false, laid := [("bulletin/window.changes", laid_bulletin_window_changes)], narrowed := true }
def WindowCloneUptoSaid : Prop := windowCloneUptoRow.holds Tryd.pinned (OpenSpec.upto windowCloneSpec)

/-- 'bulletinlaw36.WindowNil', WHERE WHAT IT READS IS OF BULK AT MOST 1048576: true; the input reads as it did. -/
def windowNilUptoRow : OpenClaim := { program := "ytajbclcpkgenbaadoor", sum := "ad36043bc9330e1b04d987eaf85cdcd5253345b9b2289d2a91cb49e13978e7f5", func := "bulletin/bulletinlaw36.WindowNil", spec := "windowNil", unfollowed := true, recurses := true, named := ["bulletin/window.changes"], plainKeys := false, apart := false, laid := [("bulletin/window.changes", laid_bulletin_window_changes)], narrowed := true }
def WindowNilUptoSaid : Prop := windowNilUptoRow.holds Tryd.pinned (OpenSpec.upto windowNilSpec)

end Rows
end Go.Proofs.YtajbclcpkgenbaaDoor
