/-
  No cell of these rows narrows 'for every input' (looked for: loops, veiled, ifaces, maps, wideKeys, modest, calm, conditions, laid).
  DERIVED. THE GIVEN ROWS OF THIS SEAT. 10 by the template 'for every input the law returns true; each argument reads behind the call as it read before'; 0 by the template 'total and deterministic' (their statements: YtobhhnfckhbeeaaTotals.lean).
  GIVEN WITH THE SEED: the statements are not yours to turn. If you find one false, say at which input.
  Laid BY PROGRAM, IN A SANDBOX (cutbox-rows.mjs): the forced cells as the released guide's own fill.sh prints them over the translation 3bba82644e19d8ce… (all of the seat's roots in one cut). By AI agents, Wed Nov 11 2026. No macro, syntax, notation, axiom, sorry.
-/
import Derived.Test.YtobhhnfckhbeeaaChecked
import GoSem.Claim
import GoSem.ClaimJoined
import GoSem.ClaimMapViews
import Derived.JoinedTies
import Derived.KernelRfl
namespace Go.Proofs.Ytobhhnfckhbeeaa
/- THE CELL 'sum', in the pinned program and in every row, IS THE sha256 OF THE DUMP (.gsa) THAT YtobhhnfckhbeeaaProg.lean LOADS. Nothing in Lean hashes anything: it is a label: what it is worth is what the hold of that sum in a sandbox is worth. -/
noncomputable def Try.pinned : Pinned := { name := "ytobhhnfckhbeeaa", sum := "3bba82644e19d8ce416ab2f570c019ab200fbc79faec1aff56b3f1e3f07b56ad", checked := Try.checked }
namespace Rows
def none {H : Type} : Left H := { results := [], args := [] }

/-- 'bulletinlaw25.HistoryChecks': WHATEVER THE INPUT: true; the input reads as it did. -/
def historyChecksSpec : ChangeSpec := { name := "historyChecks", fn := fun _ => fun
  | [d] => { results := [.lit (.bool true)], args := [d] }
  | _ => none }
def historyChecksRow : OpenClaim := { program := "ytobhhnfckhbeeaa", sum := "3bba82644e19d8ce416ab2f570c019ab200fbc79faec1aff56b3f1e3f07b56ad", func := "bulletin/bulletinlaw25.HistoryChecks", spec := "historyChecks", inPlace := ["internal/bytealg.Compare"], unfollowed := true, recurses := true, plainKeys := false, apart := false }
def HistoryChecksSaid : Prop := historyChecksRow.holds Try.pinned (OpenSpec.ofChange historyChecksSpec)

/-- ITS FALSE NEIGHBOUR: 'it returns false'. Refute it at one input. -/
def historyChecksWrong : ChangeSpec := { name := "historyChecks", fn := fun _ => fun
  | [d] => { results := [.lit (.bool false)], args := [d] }
  | _ => none }
def HistoryChecksWrongFalsely : Prop := historyChecksRow.holds Try.pinned (OpenSpec.ofChange historyChecksWrong)

/-- 'bulletinlaw25.HistoryJudges': WHATEVER THE INPUT: true; the input reads as it did. -/
def historyJudgesSpec : ChangeSpec := { name := "historyJudges", fn := fun _ => fun
  | [d1, d2, d3, d4, d5] => { results := [.lit (.bool true)], args := [d1, d2, d3, d4, d5] }
  | _ => none }
def historyJudgesRow : OpenClaim := { program := "ytobhhnfckhbeeaa", sum := "3bba82644e19d8ce416ab2f570c019ab200fbc79faec1aff56b3f1e3f07b56ad", func := "bulletin/bulletinlaw25.HistoryJudges", spec := "historyJudges", inPlace := ["internal/bytealg.Compare"], unfollowed := true, recurses := true, plainKeys := false, apart := false }
def HistoryJudgesSaid : Prop := historyJudgesRow.holds Try.pinned (OpenSpec.ofChange historyJudgesSpec)

/-- ITS FALSE NEIGHBOUR: 'it returns false'. Refute it at one input. -/
def historyJudgesWrong : ChangeSpec := { name := "historyJudges", fn := fun _ => fun
  | [d1, d2, d3, d4, d5] => { results := [.lit (.bool false)], args := [d1, d2, d3, d4, d5] }
  | _ => none }
def HistoryJudgesWrongFalsely : Prop := historyJudgesRow.holds Try.pinned (OpenSpec.ofChange historyJudgesWrong)

/-- 'bulletinlaw25.HistoryOnce': WHATEVER THE INPUT: true; the input reads as it did. -/
def historyOnceSpec : ChangeSpec := { name := "historyOnce", fn := fun _ => fun
  | [d1, d2, d3, d4, d5] => { results := [.lit (.bool true)], args := [d1, d2, d3, d4, d5] }
  | _ => none }
def historyOnceRow : OpenClaim := { program := "ytobhhnfckhbeeaa", sum := "3bba82644e19d8ce416ab2f570c019ab200fbc79faec1aff56b3f1e3f07b56ad", func := "bulletin/bulletinlaw25.HistoryOnce", spec := "historyOnce", inPlace := ["internal/bytealg.Compare"], unfollowed := true, recurses := true, plainKeys := false, apart := false }
def HistoryOnceSaid : Prop := historyOnceRow.holds Try.pinned (OpenSpec.ofChange historyOnceSpec)

/-- ITS FALSE NEIGHBOUR: 'it returns false'. Refute it at one input. -/
def historyOnceWrong : ChangeSpec := { name := "historyOnce", fn := fun _ => fun
  | [d1, d2, d3, d4, d5] => { results := [.lit (.bool false)], args := [d1, d2, d3, d4, d5] }
  | _ => none }
def HistoryOnceWrongFalsely : Prop := historyOnceRow.holds Try.pinned (OpenSpec.ofChange historyOnceWrong)

/-- 'bulletinlaw25.HistoryStops': WHATEVER THE INPUT: true; the input reads as it did. -/
def historyStopsSpec : ChangeSpec := { name := "historyStops", fn := fun _ => fun
  | [d1, d2, d3] => { results := [.lit (.bool true)], args := [d1, d2, d3] }
  | _ => none }
def historyStopsRow : OpenClaim := { program := "ytobhhnfckhbeeaa", sum := "3bba82644e19d8ce416ab2f570c019ab200fbc79faec1aff56b3f1e3f07b56ad", func := "bulletin/bulletinlaw25.HistoryStops", spec := "historyStops", inPlace := ["internal/bytealg.Compare"], unfollowed := true, recurses := true, plainKeys := false, apart := false }
def HistoryStopsSaid : Prop := historyStopsRow.holds Try.pinned (OpenSpec.ofChange historyStopsSpec)

/-- ITS FALSE NEIGHBOUR: 'it returns false'. Refute it at one input. -/
def historyStopsWrong : ChangeSpec := { name := "historyStops", fn := fun _ => fun
  | [d1, d2, d3] => { results := [.lit (.bool false)], args := [d1, d2, d3] }
  | _ => none }
def HistoryStopsWrongFalsely : Prop := historyStopsRow.holds Try.pinned (OpenSpec.ofChange historyStopsWrong)

/-- 'bulletinlaw25.HistoryPlays': WHATEVER THE INPUT: true; the input reads as it did. -/
def historyPlaysSpec : ChangeSpec := { name := "historyPlays", fn := fun _ => fun
  | [d1, d2, d3] => { results := [.lit (.bool true)], args := [d1, d2, d3] }
  | _ => none }
def historyPlaysRow : OpenClaim := { program := "ytobhhnfckhbeeaa", sum := "3bba82644e19d8ce416ab2f570c019ab200fbc79faec1aff56b3f1e3f07b56ad", func := "bulletin/bulletinlaw25.HistoryPlays", spec := "historyPlays", inPlace := ["internal/bytealg.Compare"], unfollowed := true, recurses := true, plainKeys := false, apart := false }
def HistoryPlaysSaid : Prop := historyPlaysRow.holds Try.pinned (OpenSpec.ofChange historyPlaysSpec)

/-- ITS FALSE NEIGHBOUR: 'it returns false'. Refute it at one input. -/
def historyPlaysWrong : ChangeSpec := { name := "historyPlays", fn := fun _ => fun
  | [d1, d2, d3] => { results := [.lit (.bool false)], args := [d1, d2, d3] }
  | _ => none }
def HistoryPlaysWrongFalsely : Prop := historyPlaysRow.holds Try.pinned (OpenSpec.ofChange historyPlaysWrong)

/-- 'bulletinlaw25.HistoryClones': WHATEVER THE INPUT: true; the input reads as it did. -/
def historyClonesSpec : ChangeSpec := { name := "historyClones", fn := fun _ => fun
  | [d1, d2] => { results := [.lit (.bool true)], args := [d1, d2] }
  | _ => none }
def historyClonesRow : OpenClaim := { program := "ytobhhnfckhbeeaa", sum := "3bba82644e19d8ce416ab2f570c019ab200fbc79faec1aff56b3f1e3f07b56ad", func := "bulletin/bulletinlaw25.HistoryClones", spec := "historyClones", inPlace := ["internal/bytealg.Compare", "maps.clone"], unfollowed := true, recurses := true, plainKeys := false, apart := false }
def HistoryClonesSaid : Prop := historyClonesRow.holds Try.pinned (OpenSpec.ofChange historyClonesSpec)

/-- ITS FALSE NEIGHBOUR: 'it returns false'. Refute it at one input. -/
def historyClonesWrong : ChangeSpec := { name := "historyClones", fn := fun _ => fun
  | [d1, d2] => { results := [.lit (.bool false)], args := [d1, d2] }
  | _ => none }
def HistoryClonesWrongFalsely : Prop := historyClonesRow.holds Try.pinned (OpenSpec.ofChange historyClonesWrong)

/-- 'bulletinlaw25.HistorySince': WHATEVER THE INPUT: true; the input reads as it did. -/
def historySinceSpec : ChangeSpec := { name := "historySince", fn := fun _ => fun
  | [d1, d2] => { results := [.lit (.bool true)], args := [d1, d2] }
  | _ => none }
def historySinceRow : OpenClaim := { program := "ytobhhnfckhbeeaa", sum := "3bba82644e19d8ce416ab2f570c019ab200fbc79faec1aff56b3f1e3f07b56ad", func := "bulletin/bulletinlaw25.HistorySince", spec := "historySince", inPlace := ["internal/bytealg.Compare"], unfollowed := true, recurses := true, plainKeys := false, apart := false }
def HistorySinceSaid : Prop := historySinceRow.holds Try.pinned (OpenSpec.ofChange historySinceSpec)

/-- ITS FALSE NEIGHBOUR: 'it returns false'. Refute it at one input. -/
def historySinceWrong : ChangeSpec := { name := "historySince", fn := fun _ => fun
  | [d1, d2] => { results := [.lit (.bool false)], args := [d1, d2] }
  | _ => none }
def HistorySinceWrongFalsely : Prop := historySinceRow.holds Try.pinned (OpenSpec.ofChange historySinceWrong)

/-- 'bulletinlaw25.HistoryDecodes': WHATEVER THE INPUT: true; the input reads as it did. -/
def historyDecodesSpec : ChangeSpec := { name := "historyDecodes", fn := fun _ => fun
  | [d] => { results := [.lit (.bool true)], args := [d] }
  | _ => none }
def historyDecodesRow : OpenClaim := { program := "ytobhhnfckhbeeaa", sum := "3bba82644e19d8ce416ab2f570c019ab200fbc79faec1aff56b3f1e3f07b56ad", func := "bulletin/bulletinlaw25.HistoryDecodes", spec := "historyDecodes", inPlace := ["internal/bytealg.Compare"], unfollowed := true, recurses := true, plainKeys := false, apart := false }
def HistoryDecodesSaid : Prop := historyDecodesRow.holds Try.pinned (OpenSpec.ofChange historyDecodesSpec)

/-- ITS FALSE NEIGHBOUR: 'it returns false'. Refute it at one input. -/
def historyDecodesWrong : ChangeSpec := { name := "historyDecodes", fn := fun _ => fun
  | [d] => { results := [.lit (.bool false)], args := [d] }
  | _ => none }
def HistoryDecodesWrongFalsely : Prop := historyDecodesRow.holds Try.pinned (OpenSpec.ofChange historyDecodesWrong)

/-- 'bulletinlaw25.HistoryEncodes': WHATEVER THE INPUT: true; the input reads as it did. -/
def historyEncodesSpec : ChangeSpec := { name := "historyEncodes", fn := fun _ => fun
  | [d] => { results := [.lit (.bool true)], args := [d] }
  | _ => none }
def historyEncodesRow : OpenClaim := { program := "ytobhhnfckhbeeaa", sum := "3bba82644e19d8ce416ab2f570c019ab200fbc79faec1aff56b3f1e3f07b56ad", func := "bulletin/bulletinlaw25.HistoryEncodes", spec := "historyEncodes", inPlace := ["internal/bytealg.Compare"], unfollowed := true, recurses := true, plainKeys := false, apart := false }
def HistoryEncodesSaid : Prop := historyEncodesRow.holds Try.pinned (OpenSpec.ofChange historyEncodesSpec)

/-- ITS FALSE NEIGHBOUR: 'it returns false'. Refute it at one input. -/
def historyEncodesWrong : ChangeSpec := { name := "historyEncodes", fn := fun _ => fun
  | [d] => { results := [.lit (.bool false)], args := [d] }
  | _ => none }
def HistoryEncodesWrongFalsely : Prop := historyEncodesRow.holds Try.pinned (OpenSpec.ofChange historyEncodesWrong)

/-- 'bulletinlaw25.HistoryNil': WHATEVER THE INPUT: true; the input reads as it did. -/
def historyNilSpec : ChangeSpec := { name := "historyNil", fn := fun _ => fun
  | [d1, d2] => { results := [.lit (.bool true)], args := [d1, d2] }
  | _ => none }
def historyNilRow : OpenClaim := { program := "ytobhhnfckhbeeaa", sum := "3bba82644e19d8ce416ab2f570c019ab200fbc79faec1aff56b3f1e3f07b56ad", func := "bulletin/bulletinlaw25.HistoryNil", spec := "historyNil", inPlace := ["internal/bytealg.Compare", "maps.clone"], unfollowed := true, recurses := true, plainKeys := false, apart := false }
def HistoryNilSaid : Prop := historyNilRow.holds Try.pinned (OpenSpec.ofChange historyNilSpec)

/-- ITS FALSE NEIGHBOUR: 'it returns false'. Refute it at one input. -/
def historyNilWrong : ChangeSpec := { name := "historyNil", fn := fun _ => fun
  | [d1, d2] => { results := [.lit (.bool false)], args := [d1, d2] }
  | _ => none }
def HistoryNilWrongFalsely : Prop := historyNilRow.holds Try.pinned (OpenSpec.ofChange historyNilWrong)

/- THE SECOND FORM. 'bulk': how many values and letters a reading holds, each counted each time it is reached (what is shared counts as often as it is met; a slice's spare places count too). A statement '..UptoSaid' is the law's where the arguments, and the package variables that the reading takes, are together of bulk at most 1048576: NARROWER than '..Said'. Prove '..Said' where nothing that the law and all that it calls make is longer than what came in: it says more and counts as full. Else prove '..UptoSaid'. A law counts once. -/
mutual
def uptoBulk {H : Type} : DataW H → Nat
  | .lit (.string bytes) => bytes.length + 1
  | .lit _ => 1
  | .nil => 1
  | .ptr d => uptoBulk d + 1
  | .slice elems spare => uptoBulkAll elems + uptoBulkAll spare + 1
  | .agg parts => uptoBulkAll parts + 1
  | .iface _ d => uptoBulk d + 1
  | .map entries => uptoBulkEntries entries + 1
  | .held _ => 1
def uptoBulkAll {H : Type} : List (DataW H) → Nat
  | [] => 0
  | d :: r => uptoBulk d + uptoBulkAll r
def uptoBulkEntries {H : Type} : List (Lit × DataW H) → Nat
  | [] => 0
  | x :: r => uptoBulkEntry x + uptoBulkEntries r
def uptoBulkEntry {H : Type} : Lit × DataW H → Nat
  | (.string bytes, d) => bytes.length + uptoBulk d + 1
  | (_, d) => uptoBulk d + 1
 end
def uptoSmall : (H : Type) → List (DataW H) → Bool := fun _ ds => decide (uptoBulkAll ds ≤ 1048576)
def OpenSpec.upto (s : _root_.Go.ChangeSpec) : _root_.Go.OpenSpec := { _root_.Go.OpenSpec.ofChange s with cond := some uptoSmall }

/-- 'bulletinlaw25.HistoryChecks', WHERE WHAT IT READS IS OF BULK AT MOST 1048576: true; the input reads as it did. -/
def historyChecksUptoRow : OpenClaim := { program := "ytobhhnfckhbeeaa", sum := "3bba82644e19d8ce416ab2f570c019ab200fbc79faec1aff56b3f1e3f07b56ad", func := "bulletin/bulletinlaw25.HistoryChecks", spec := "historyChecks", inPlace := ["internal/bytealg.Compare"], unfollowed := true, recurses := true, plainKeys := false, apart := false, narrowed := true }
def HistoryChecksUptoSaid : Prop := historyChecksUptoRow.holds Try.pinned (OpenSpec.upto historyChecksSpec)

/-- 'bulletinlaw25.HistoryJudges', WHERE WHAT IT READS IS OF BULK AT MOST 1048576: true; the input reads as it did. -/
def historyJudgesUptoRow : OpenClaim := { program := "ytobhhnfckhbeeaa", sum := "3bba82644e19d8ce416ab2f570c019ab200fbc79faec1aff56b3f1e3f07b56ad", func := "bulletin/bulletinlaw25.HistoryJudges", spec := "historyJudges", inPlace := ["internal/bytealg.Compare"], unfollowed := true, recurses := true, plainKeys := false, apart := false, narrowed := true }
def HistoryJudgesUptoSaid : Prop := historyJudgesUptoRow.holds Try.pinned (OpenSpec.upto historyJudgesSpec)

/-- 'bulletinlaw25.HistoryOnce', WHERE WHAT IT READS IS OF BULK AT MOST 1048576: true; the input reads as it did. -/
def historyOnceUptoRow : OpenClaim := { program := "ytobhhnfckhbeeaa", sum := "3bba82644e19d8ce416ab2f570c019ab200fbc79faec1aff56b3f1e3f07b56ad", func := "bulletin/bulletinlaw25.HistoryOnce", spec := "historyOnce", inPlace := ["internal/bytealg.Compare"], unfollowed := true, recurses := true, plainKeys := false, apart := false, narrowed := true }
def HistoryOnceUptoSaid : Prop := historyOnceUptoRow.holds Try.pinned (OpenSpec.upto historyOnceSpec)

/-- 'bulletinlaw25.HistoryStops', WHERE WHAT IT READS IS OF BULK AT MOST 1048576: true; the input reads as it did. -/
def historyStopsUptoRow : OpenClaim := { program := "ytobhhnfckhbeeaa", sum := "3bba82644e19d8ce416ab2f570c019ab200fbc79faec1aff56b3f1e3f07b56ad", func := "bulletin/bulletinlaw25.HistoryStops", spec := "historyStops", inPlace := ["internal/bytealg.Compare"], unfollowed := true, recurses := true, plainKeys := false, apart := false, narrowed := true }
def HistoryStopsUptoSaid : Prop := historyStopsUptoRow.holds Try.pinned (OpenSpec.upto historyStopsSpec)

/-- 'bulletinlaw25.HistoryPlays', WHERE WHAT IT READS IS OF BULK AT MOST 1048576: true; the input reads as it did. -/
def historyPlaysUptoRow : OpenClaim := { program := "ytobhhnfckhbeeaa", sum := "3bba82644e19d8ce416ab2f570c019ab200fbc79faec1aff56b3f1e3f07b56ad", func := "bulletin/bulletinlaw25.HistoryPlays", spec := "historyPlays", inPlace := ["internal/bytealg.Compare"], unfollowed := true, recurses := true, plainKeys := false, apart := false, narrowed := true }
def HistoryPlaysUptoSaid : Prop := historyPlaysUptoRow.holds Try.pinned (OpenSpec.upto historyPlaysSpec)

/-- 'bulletinlaw25.HistoryClones', WHERE WHAT IT READS IS OF BULK AT MOST 1048576: true; the input reads as it did. -/
def historyClonesUptoRow : OpenClaim := { program := "ytobhhnfckhbeeaa", sum := "3bba82644e19d8ce416ab2f570c019ab200fbc79faec1aff56b3f1e3f07b56ad", func := "bulletin/bulletinlaw25.HistoryClones", spec := "historyClones", inPlace := ["internal/bytealg.Compare", "maps.clone"], unfollowed := true, recurses := true, plainKeys := false, apart := false, narrowed := true }
def HistoryClonesUptoSaid : Prop := historyClonesUptoRow.holds Try.pinned (OpenSpec.upto historyClonesSpec)

/-- 'bulletinlaw25.HistorySince', WHERE WHAT IT READS IS OF BULK AT MOST 1048576: true; the input reads as it did. -/
def historySinceUptoRow : OpenClaim := { program := "ytobhhnfckhbeeaa", sum := "3bba82644e19d8ce416ab2f570c019ab200fbc79faec1aff56b3f1e3f07b56ad", func := "bulletin/bulletinlaw25.HistorySince", spec := "historySince", inPlace := ["internal/bytealg.Compare"], unfollowed := true, recurses := true, plainKeys := false, apart := false, narrowed := true }
def HistorySinceUptoSaid : Prop := historySinceUptoRow.holds Try.pinned (OpenSpec.upto historySinceSpec)

/-- 'bulletinlaw25.HistoryDecodes', WHERE WHAT IT READS IS OF BULK AT MOST 1048576: true; the input reads as it did. -/
def historyDecodesUptoRow : OpenClaim := { program := "ytobhhnfckhbeeaa", sum := "3bba82644e19d8ce416ab2f570c019ab200fbc79faec1aff56b3f1e3f07b56ad", func := "bulletin/bulletinlaw25.HistoryDecodes", spec := "historyDecodes", inPlace := ["internal/bytealg.Compare"], unfollowed := true, recurses := true, plainKeys := false, apart := false, narrowed := true }
def HistoryDecodesUptoSaid : Prop := historyDecodesUptoRow.holds Try.pinned (OpenSpec.upto historyDecodesSpec)

/-- 'bulletinlaw25.HistoryEncodes', WHERE WHAT IT READS IS OF BULK AT MOST 1048576: true; the input reads as it did. -/
def historyEncodesUptoRow : OpenClaim := { program := "ytobhhnfckhbeeaa", sum := "3bba82644e19d8ce416ab2f570c019ab200fbc79faec1aff56b3f1e3f07b56ad", func := "bulletin/bulletinlaw25.HistoryEncodes", spec := "historyEncodes", inPlace := ["internal/bytealg.Compare"], unfollowed := true, recurses := true, plainKeys := false, apart := false, narrowed := true }
def HistoryEncodesUptoSaid : Prop := historyEncodesUptoRow.holds Try.pinned (OpenSpec.upto historyEncodesSpec)

/-- 'bulletinlaw25.HistoryNil', WHERE WHAT IT READS IS OF BULK AT MOST 1048576: true; the input reads as it did. -/
def historyNilUptoRow : OpenClaim := { program := "ytobhhnfckhbeeaa", sum := "3bba82644e19d8ce416ab2f570c019ab200fbc79faec1aff56b3f1e3f07b56ad", func := "bulletin/bulletinlaw25.HistoryNil", spec := "historyNil", inPlace := ["internal/bytealg.Compare", "maps.clone"], unfollowed := true, recurses := true, plainKeys := false, apart := false, narrowed := true }
def HistoryNilUptoSaid : Prop := historyNilUptoRow.holds Try.pinned (OpenSpec.upto historyNilSpec)

end Rows
end Go.Proofs.Ytobhhnfckhbeeaa
