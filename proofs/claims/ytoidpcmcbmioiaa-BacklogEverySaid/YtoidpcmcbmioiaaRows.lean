/-
  No cell of these rows narrows 'for every input' (looked for: loops, veiled, ifaces, maps, wideKeys, modest, calm, conditions, laid).
  DERIVED. THE GIVEN ROWS OF THIS SEAT. 9 by the template 'for every input the law returns true; each argument reads behind the call as it read before'; 0 by the template 'total and deterministic' (their statements: YtoidpcmcbmioiaaTotals.lean).
  GIVEN WITH THE SEED: the statements are not yours to turn. If you find one false, say at which input.
  Laid BY PROGRAM, IN A SANDBOX (cutbox-rows.mjs): the forced cells as the released guide's own fill.sh prints them over the translation b406437a2b8d960d… (all of the seat's roots in one cut). By AI agents, Wed Nov 11 2026. No macro, syntax, notation, axiom, sorry.
-/
import Derived.Test.YtoidpcmcbmioiaaChecked
import GoSem.Claim
import GoSem.ClaimJoined
import GoSem.ClaimMapViews
import Derived.JoinedTies
import Derived.KernelRfl
namespace Go.Proofs.Ytoidpcmcbmioiaa
/- THE CELL 'sum', in the pinned program and in every row, IS THE sha256 OF THE DUMP (.gsa) THAT YtoidpcmcbmioiaaProg.lean LOADS. Nothing in Lean hashes anything: it is a label: what it is worth is what the hold of that sum in a sandbox is worth. -/
noncomputable def Try.pinned : Pinned := { name := "ytoidpcmcbmioiaa", sum := "b406437a2b8d960ddc951fe180eba3f1cb80513b205c8a8c315000b6f6aefb10", checked := Try.checked }
namespace Rows
def none {H : Type} : Left H := { results := [], args := [] }

/-- 'bulletinlaw38.BacklogBounded': WHATEVER THE INPUT: true; the input reads as it did. -/
def backlogBoundedSpec : ChangeSpec := { name := "backlogBounded", fn := fun _ => fun
  | [d1, d2] => { results := [.lit (.bool true)], args := [d1, d2] }
  | _ => none }
def backlogBoundedRow : OpenClaim := { program := "ytoidpcmcbmioiaa", sum := "b406437a2b8d960ddc951fe180eba3f1cb80513b205c8a8c315000b6f6aefb10", func := "bulletin/bulletinlaw38.BacklogBounded", spec := "backlogBounded", unfollowed := true, recurses := true, plainKeys := false, apart := false }
def BacklogBoundedSaid : Prop := backlogBoundedRow.holds Try.pinned (OpenSpec.ofChange backlogBoundedSpec)

/-- ITS FALSE NEIGHBOUR: 'it returns false'. Refute it at one input. -/
def backlogBoundedWrong : ChangeSpec := { name := "backlogBounded", fn := fun _ => fun
  | [d1, d2] => { results := [.lit (.bool false)], args := [d1, d2] }
  | _ => none }
def BacklogBoundedWrongFalsely : Prop := backlogBoundedRow.holds Try.pinned (OpenSpec.ofChange backlogBoundedWrong)

/-- 'bulletinlaw38.BacklogKept': WHATEVER THE INPUT: true; the input reads as it did. -/
def backlogKeptSpec : ChangeSpec := { name := "backlogKept", fn := fun _ => fun
  | [d] => { results := [.lit (.bool true)], args := [d] }
  | _ => none }
def backlogKeptRow : OpenClaim := { program := "ytoidpcmcbmioiaa", sum := "b406437a2b8d960ddc951fe180eba3f1cb80513b205c8a8c315000b6f6aefb10", func := "bulletin/bulletinlaw38.BacklogKept", spec := "backlogKept", unfollowed := true, recurses := true, plainKeys := false, apart := false }
def BacklogKeptSaid : Prop := backlogKeptRow.holds Try.pinned (OpenSpec.ofChange backlogKeptSpec)

/-- ITS FALSE NEIGHBOUR: 'it returns false'. Refute it at one input. -/
def backlogKeptWrong : ChangeSpec := { name := "backlogKept", fn := fun _ => fun
  | [d] => { results := [.lit (.bool false)], args := [d] }
  | _ => none }
def BacklogKeptWrongFalsely : Prop := backlogKeptRow.holds Try.pinned (OpenSpec.ofChange backlogKeptWrong)

/-- 'bulletinlaw38.BacklogEvery': WHATEVER THE INPUT: true; the input reads as it did. -/
def backlogEverySpec : ChangeSpec := { name := "backlogEvery", fn := fun _ => fun
  | [d1, d2, d3] => { results := [.lit (.bool true)], args := [d1, d2, d3] }
  | _ => none }
def backlogEveryRow : OpenClaim := { program := "ytoidpcmcbmioiaa", sum := "b406437a2b8d960ddc951fe180eba3f1cb80513b205c8a8c315000b6f6aefb10", func := "bulletin/bulletinlaw38.BacklogEvery", spec := "backlogEvery", unfollowed := true, recurses := true, plainKeys := false, apart := false }
def BacklogEverySaid : Prop := backlogEveryRow.holds Try.pinned (OpenSpec.ofChange backlogEverySpec)

/-- ITS FALSE NEIGHBOUR: 'it returns false'. Refute it at one input. -/
def backlogEveryWrong : ChangeSpec := { name := "backlogEvery", fn := fun _ => fun
  | [d1, d2, d3] => { results := [.lit (.bool false)], args := [d1, d2, d3] }
  | _ => none }
def BacklogEveryWrongFalsely : Prop := backlogEveryRow.holds Try.pinned (OpenSpec.ofChange backlogEveryWrong)

/-- 'bulletinlaw38.BacklogOperations': WHATEVER THE INPUT: true; the input reads as it did. -/
def backlogOperationsSpec : ChangeSpec := { name := "backlogOperations", fn := fun _ => fun
  | [d1, d2, d3] => { results := [.lit (.bool true)], args := [d1, d2, d3] }
  | _ => none }
def backlogOperationsRow : OpenClaim := { program := "ytoidpcmcbmioiaa", sum := "b406437a2b8d960ddc951fe180eba3f1cb80513b205c8a8c315000b6f6aefb10", func := "bulletin/bulletinlaw38.BacklogOperations", spec := "backlogOperations", unfollowed := true, recurses := true, plainKeys := false, apart := false }
def BacklogOperationsSaid : Prop := backlogOperationsRow.holds Try.pinned (OpenSpec.ofChange backlogOperationsSpec)

/-- ITS FALSE NEIGHBOUR: 'it returns false'. Refute it at one input. -/
def backlogOperationsWrong : ChangeSpec := { name := "backlogOperations", fn := fun _ => fun
  | [d1, d2, d3] => { results := [.lit (.bool false)], args := [d1, d2, d3] }
  | _ => none }
def BacklogOperationsWrongFalsely : Prop := backlogOperationsRow.holds Try.pinned (OpenSpec.ofChange backlogOperationsWrong)

/-- 'bulletinlaw38.BacklogDecode': WHATEVER THE INPUT: true; the input reads as it did. -/
def backlogDecodeSpec : ChangeSpec := { name := "backlogDecode", fn := fun _ => fun
  | [d] => { results := [.lit (.bool true)], args := [d] }
  | _ => none }
def backlogDecodeRow : OpenClaim := { program := "ytoidpcmcbmioiaa", sum := "b406437a2b8d960ddc951fe180eba3f1cb80513b205c8a8c315000b6f6aefb10", func := "bulletin/bulletinlaw38.BacklogDecode", spec := "backlogDecode", unfollowed := true, recurses := true, plainKeys := false, apart := false }
def BacklogDecodeSaid : Prop := backlogDecodeRow.holds Try.pinned (OpenSpec.ofChange backlogDecodeSpec)

/-- ITS FALSE NEIGHBOUR: 'it returns false'. Refute it at one input. -/
def backlogDecodeWrong : ChangeSpec := { name := "backlogDecode", fn := fun _ => fun
  | [d] => { results := [.lit (.bool false)], args := [d] }
  | _ => none }
def BacklogDecodeWrongFalsely : Prop := backlogDecodeRow.holds Try.pinned (OpenSpec.ofChange backlogDecodeWrong)

/-- 'bulletinlaw38.BacklogOrder': WHATEVER THE INPUT: true; the input reads as it did. -/
def backlogOrderSpec : ChangeSpec := { name := "backlogOrder", fn := fun _ => fun
  | [d1, d2, d3] => { results := [.lit (.bool true)], args := [d1, d2, d3] }
  | _ => none }
def backlogOrderRow : OpenClaim := { program := "ytoidpcmcbmioiaa", sum := "b406437a2b8d960ddc951fe180eba3f1cb80513b205c8a8c315000b6f6aefb10", func := "bulletin/bulletinlaw38.BacklogOrder", spec := "backlogOrder", unfollowed := true, recurses := true, plainKeys := false, apart := false }
def BacklogOrderSaid : Prop := backlogOrderRow.holds Try.pinned (OpenSpec.ofChange backlogOrderSpec)

/-- ITS FALSE NEIGHBOUR: 'it returns false'. Refute it at one input. -/
def backlogOrderWrong : ChangeSpec := { name := "backlogOrder", fn := fun _ => fun
  | [d1, d2, d3] => { results := [.lit (.bool false)], args := [d1, d2, d3] }
  | _ => none }
def BacklogOrderWrongFalsely : Prop := backlogOrderRow.holds Try.pinned (OpenSpec.ofChange backlogOrderWrong)

/-- 'bulletinlaw38.BacklogClone': WHATEVER THE INPUT: true; the input reads as it did. -/
def backlogCloneSpec : ChangeSpec := { name := "backlogClone", fn := fun _ => fun
  | [d1, d2] => { results := [.lit (.bool true)], args := [d1, d2] }
  | _ => none }
def backlogCloneRow : OpenClaim := { program := "ytoidpcmcbmioiaa", sum := "b406437a2b8d960ddc951fe180eba3f1cb80513b205c8a8c315000b6f6aefb10", func := "bulletin/bulletinlaw38.BacklogClone", spec := "backlogClone", unfollowed := true, recurses := true, plainKeys := false, apart := false }
def BacklogCloneSaid : Prop := backlogCloneRow.holds Try.pinned (OpenSpec.ofChange backlogCloneSpec)

/-- ITS FALSE NEIGHBOUR: 'it returns false'. Refute it at one input. -/
def backlogCloneWrong : ChangeSpec := { name := "backlogClone", fn := fun _ => fun
  | [d1, d2] => { results := [.lit (.bool false)], args := [d1, d2] }
  | _ => none }
def BacklogCloneWrongFalsely : Prop := backlogCloneRow.holds Try.pinned (OpenSpec.ofChange backlogCloneWrong)

/-- 'bulletinlaw38.BacklogNil': WHATEVER THE INPUT: true; the input reads as it did. -/
def backlogNilSpec : ChangeSpec := { name := "backlogNil", fn := fun _ => fun
  | [d] => { results := [.lit (.bool true)], args := [d] }
  | _ => none }
def backlogNilRow : OpenClaim := { program := "ytoidpcmcbmioiaa", sum := "b406437a2b8d960ddc951fe180eba3f1cb80513b205c8a8c315000b6f6aefb10", func := "bulletin/bulletinlaw38.BacklogNil", spec := "backlogNil", unfollowed := true, recurses := true, plainKeys := false, apart := false }
def BacklogNilSaid : Prop := backlogNilRow.holds Try.pinned (OpenSpec.ofChange backlogNilSpec)

/-- ITS FALSE NEIGHBOUR: 'it returns false'. Refute it at one input. -/
def backlogNilWrong : ChangeSpec := { name := "backlogNil", fn := fun _ => fun
  | [d] => { results := [.lit (.bool false)], args := [d] }
  | _ => none }
def BacklogNilWrongFalsely : Prop := backlogNilRow.holds Try.pinned (OpenSpec.ofChange backlogNilWrong)

/-- 'bulletinlaw38.BacklogEncode': WHATEVER THE INPUT: true; the input reads as it did. -/
def backlogEncodeSpec : ChangeSpec := { name := "backlogEncode", fn := fun _ => fun
  | [d] => { results := [.lit (.bool true)], args := [d] }
  | _ => none }
def backlogEncodeRow : OpenClaim := { program := "ytoidpcmcbmioiaa", sum := "b406437a2b8d960ddc951fe180eba3f1cb80513b205c8a8c315000b6f6aefb10", func := "bulletin/bulletinlaw38.BacklogEncode", spec := "backlogEncode", unfollowed := true, recurses := true, plainKeys := false, apart := false }
def BacklogEncodeSaid : Prop := backlogEncodeRow.holds Try.pinned (OpenSpec.ofChange backlogEncodeSpec)

/-- ITS FALSE NEIGHBOUR: 'it returns false'. Refute it at one input. -/
def backlogEncodeWrong : ChangeSpec := { name := "backlogEncode", fn := fun _ => fun
  | [d] => { results := [.lit (.bool false)], args := [d] }
  | _ => none }
def BacklogEncodeWrongFalsely : Prop := backlogEncodeRow.holds Try.pinned (OpenSpec.ofChange backlogEncodeWrong)

/- THE SECOND FORM. 'bulk': how many values and letters a reading holds, each counted each time it is reached (what is shared counts as often as it is met; a slice's spare places count too). A statement '..UptoSaid' is the law's where the arguments, and the package variables that the reading takes, are together of bulk at most 1048576: NARROWER than '..Said'. Prove '..Said' where nothing that the law and all that it calls make is longer than what came in: it says more and counts as full. Else prove '..UptoSaid'. A law counts once. -/
mutual
def uptoBulk {H : Type} : DataW H → Nat
  | .lit (.string bytes) => bytes.length + 1
  | .lit _ => 1
  | .nil => 1
  | .ptr d => uptoBulk d + 1
  | .slice elems spare => uptoBulkAll elems + uptoBulkAll spare + 1
  | .agg parts => uptoBulkAll parts + 1
  | .iface _ d => uptoBulk d + 1
  | .map entries => uptoBulkEntries entries + 1
  | .held _ => 1
def uptoBulkAll {H : Type} : List (DataW H) → Nat
  | [] => 0
  | d :: r => uptoBulk d + uptoBulkAll r
def uptoBulkEntries {H : Type} : List (Lit × DataW H) → Nat
  | [] => 0
  | x :: r => uptoBulkEntry x + uptoBulkEntries r
def uptoBulkEntry {H : Type} : Lit × DataW H → Nat
  | (.string bytes, d) => bytes.length + uptoBulk d + 1
  | (_, d) => uptoBulk d + 1
 end
def uptoSmall : (H : Type) → List (DataW H) → Bool := fun _ ds => decide (uptoBulkAll ds ≤ 1048576)
def OpenSpec.upto (s : _root_.Go.ChangeSpec) : _root_.Go.OpenSpec := { _root_.Go.OpenSpec.ofChange s with cond := some uptoSmall }

/-- 'bulletinlaw38.BacklogBounded', WHERE WHAT IT READS IS OF BULK AT MOST 1048576: true; the input reads as it did. -/
def backlogBoundedUptoRow : OpenClaim := { program := "ytoidpcmcbmioiaa", sum := "b406437a2b8d960ddc951fe180eba3f1cb80513b205c8a8c315000b6f6aefb10", func := "bulletin/bulletinlaw38.BacklogBounded", spec := "backlogBounded", unfollowed := true, recurses := true, plainKeys := false, apart := false, narrowed := true }
def BacklogBoundedUptoSaid : Prop := backlogBoundedUptoRow.holds Try.pinned (OpenSpec.upto backlogBoundedSpec)

/-- 'bulletinlaw38.BacklogKept', WHERE WHAT IT READS IS OF BULK AT MOST 1048576: true; the input reads as it did. -/
def backlogKeptUptoRow : OpenClaim := { program := "ytoidpcmcbmioiaa", sum := "b406437a2b8d960ddc951fe180eba3f1cb80513b205c8a8c315000b6f6aefb10", func := "bulletin/bulletinlaw38.BacklogKept", spec := "backlogKept", unfollowed := true, recurses := true, plainKeys := false, apart := false, narrowed := true }
def BacklogKeptUptoSaid : Prop := backlogKeptUptoRow.holds Try.pinned (OpenSpec.upto backlogKeptSpec)

/-- 'bulletinlaw38.BacklogEvery', WHERE WHAT IT READS IS OF BULK AT MOST 1048576: true; the input reads as it did. -/
def backlogEveryUptoRow : OpenClaim := { program := "ytoidpcmcbmioiaa", sum := "b406437a2b8d960ddc951fe180eba3f1cb80513b205c8a8c315000b6f6aefb10", func := "bulletin/bulletinlaw38.BacklogEvery", spec := "backlogEvery", unfollowed := true, recurses := true, plainKeys := false, apart := false, narrowed := true }
def BacklogEveryUptoSaid : Prop := backlogEveryUptoRow.holds Try.pinned (OpenSpec.upto backlogEverySpec)

/-- 'bulletinlaw38.BacklogOperations', WHERE WHAT IT READS IS OF BULK AT MOST 1048576: true; the input reads as it did. -/
def backlogOperationsUptoRow : OpenClaim := { program := "ytoidpcmcbmioiaa", sum := "b406437a2b8d960ddc951fe180eba3f1cb80513b205c8a8c315000b6f6aefb10", func := "bulletin/bulletinlaw38.BacklogOperations", spec := "backlogOperations", unfollowed := true, recurses := true, plainKeys := false, apart := false, narrowed := true }
def BacklogOperationsUptoSaid : Prop := backlogOperationsUptoRow.holds Try.pinned (OpenSpec.upto backlogOperationsSpec)

/-- 'bulletinlaw38.BacklogDecode', WHERE WHAT IT READS IS OF BULK AT MOST 1048576: true; the input reads as it did. -/
def backlogDecodeUptoRow : OpenClaim := { program := "ytoidpcmcbmioiaa", sum := "b406437a2b8d960ddc951fe180eba3f1cb80513b205c8a8c315000b6f6aefb10", func := "bulletin/bulletinlaw38.BacklogDecode", spec := "backlogDecode", unfollowed := true, recurses := true, plainKeys := false, apart := false, narrowed := true }
def BacklogDecodeUptoSaid : Prop := backlogDecodeUptoRow.holds Try.pinned (OpenSpec.upto backlogDecodeSpec)

/-- 'bulletinlaw38.BacklogOrder', WHERE WHAT IT READS IS OF BULK AT MOST 1048576: true; the input reads as it did. -/
def backlogOrderUptoRow : OpenClaim := { program := "ytoidpcmcbmioiaa", sum := "b406437a2b8d960ddc951fe180eba3f1cb80513b205c8a8c315000b6f6aefb10", func := "bulletin/bulletinlaw38.BacklogOrder", spec := "backlogOrder", unfollowed := true, recurses := true, plainKeys := false, apart := false, narrowed := true }
def BacklogOrderUptoSaid : Prop := backlogOrderUptoRow.holds Try.pinned (OpenSpec.upto backlogOrderSpec)

/-- 'bulletinlaw38.BacklogClone', WHERE WHAT IT READS IS OF BULK AT MOST 1048576: true; the input reads as it did. -/
def backlogCloneUptoRow : OpenClaim := { program := "ytoidpcmcbmioiaa", sum := "b406437a2b8d960ddc951fe180eba3f1cb80513b205c8a8c315000b6f6aefb10", func := "bulletin/bulletinlaw38.BacklogClone", spec := "backlogClone", unfollowed := true, recurses := true, plainKeys := false, apart := false, narrowed := true }
def BacklogCloneUptoSaid : Prop := backlogCloneUptoRow.holds Try.pinned (OpenSpec.upto backlogCloneSpec)

/-- 'bulletinlaw38.BacklogNil', WHERE WHAT IT READS IS OF BULK AT MOST 1048576: true; the input reads as it did. -/
def backlogNilUptoRow : OpenClaim := { program := "ytoidpcmcbmioiaa", sum := "b406437a2b8d960ddc951fe180eba3f1cb80513b205c8a8c315000b6f6aefb10", func := "bulletin/bulletinlaw38.BacklogNil", spec := "backlogNil", unfollowed := true, recurses := true, plainKeys := false, apart := false, narrowed := true }
def BacklogNilUptoSaid : Prop := backlogNilUptoRow.holds Try.pinned (OpenSpec.upto backlogNilSpec)

/-- 'bulletinlaw38.BacklogEncode', WHERE WHAT IT READS IS OF BULK AT MOST 1048576: true; the input reads as it did. -/
def backlogEncodeUptoRow : OpenClaim := { program := "ytoidpcmcbmioiaa", sum := "b406437a2b8d960ddc951fe180eba3f1cb80513b205c8a8c315000b6f6aefb10", func := "bulletin/bulletinlaw38.BacklogEncode", spec := "backlogEncode", unfollowed := true, recurses := true, plainKeys := false, apart := false, narrowed := true }
def BacklogEncodeUptoSaid : Prop := backlogEncodeUptoRow.holds Try.pinned (OpenSpec.upto backlogEncodeSpec)

end Rows
end Go.Proofs.Ytoidpcmcbmioiaa
