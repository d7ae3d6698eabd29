/-
  No cell of these rows narrows 'for every input' (looked for: loops, veiled, ifaces, maps, wideKeys, modest, calm, conditions, laid).
  DERIVED. THE GIVEN ROWS OF THIS SEAT. 10 by the template 'for every input the law returns true; each argument reads behind the call as it read before'; 0 by the template 'total and deterministic' (their statements: YtmjmichghfepkaaTotals.lean).
  GIVEN WITH THE SEED: the statements are not yours to turn. If you find one false, say at which input.
  Laid BY PROGRAM, IN A SANDBOX (cutbox-rows.mjs): the forced cells as the released guide's own fill.sh prints them over the translation 65d5134f1ee49930… (all of the seat's roots in one cut). By AI agents, Wed Nov 11 2026. No macro, syntax, notation, axiom, sorry.
-/
import Derived.Test.YtmjmichghfepkaaChecked
import GoSem.Claim
import GoSem.ClaimJoined
import GoSem.ClaimMapViews
import Derived.JoinedTies
import Derived.KernelRfl
namespace Go.Proofs.Ytmjmichghfepkaa
/- THE CELL 'sum', in the pinned program and in every row, IS THE sha256 OF THE DUMP (.gsa) THAT YtmjmichghfepkaaProg.lean LOADS. Nothing in Lean hashes anything: it is a label: what it is worth is what the hold of that sum in a sandbox is worth. -/
noncomputable def Try.pinned : Pinned := { name := "ytmjmichghfepkaa", sum := "65d5134f1ee4993003a59de6854a90082d0d0fe16db4c3f73a47fa729d393232", checked := Try.checked }
namespace Rows
def none {H : Type} : Left H := { results := [], args := [] }

/-- 'bulletinlaw41.SupersedeValid': WHATEVER THE INPUT: true; the input reads as it did. -/
def supersedeValidSpec : ChangeSpec := { name := "supersedeValid", fn := fun _ => fun
  | [d1, d2, d3] => { results := [.lit (.bool true)], args := [d1, d2, d3] }
  | _ => none }
def supersedeValidRow : OpenClaim := { program := "ytmjmichghfepkaa", sum := "65d5134f1ee4993003a59de6854a90082d0d0fe16db4c3f73a47fa729d393232", func := "bulletin/bulletinlaw41.SupersedeValid", spec := "supersedeValid", unfollowed := true, recurses := true, plainKeys := false, apart := false }
def SupersedeValidSaid : Prop := supersedeValidRow.holds Try.pinned (OpenSpec.ofChange supersedeValidSpec)

/-- ITS FALSE NEIGHBOUR: 'it returns false'. Refute it at one input. -/
def supersedeValidWrong : ChangeSpec := { name := "supersedeValid", fn := fun _ => fun
  | [d1, d2, d3] => { results := [.lit (.bool false)], args := [d1, d2, d3] }
  | _ => none }
def SupersedeValidWrongFalsely : Prop := supersedeValidRow.holds Try.pinned (OpenSpec.ofChange supersedeValidWrong)

/-- 'bulletinlaw41.SupersedeEnds': WHATEVER THE INPUT: true; the input reads as it did. -/
def supersedeEndsSpec : ChangeSpec := { name := "supersedeEnds", fn := fun _ => fun
  | [d] => { results := [.lit (.bool true)], args := [d] }
  | _ => none }
def supersedeEndsRow : OpenClaim := { program := "ytmjmichghfepkaa", sum := "65d5134f1ee4993003a59de6854a90082d0d0fe16db4c3f73a47fa729d393232", func := "bulletin/bulletinlaw41.SupersedeEnds", spec := "supersedeEnds", unfollowed := true, recurses := true, plainKeys := false, apart := false }
def SupersedeEndsSaid : Prop := supersedeEndsRow.holds Try.pinned (OpenSpec.ofChange supersedeEndsSpec)

/-- ITS FALSE NEIGHBOUR: 'it returns false'. Refute it at one input. -/
def supersedeEndsWrong : ChangeSpec := { name := "supersedeEnds", fn := fun _ => fun
  | [d] => { results := [.lit (.bool false)], args := [d] }
  | _ => none }
def SupersedeEndsWrongFalsely : Prop := supersedeEndsRow.holds Try.pinned (OpenSpec.ofChange supersedeEndsWrong)

/-- 'bulletinlaw41.SupersedeOrder': WHATEVER THE INPUT: true; the input reads as it did. -/
def supersedeOrderSpec : ChangeSpec := { name := "supersedeOrder", fn := fun _ => fun
  | [d1, d2] => { results := [.lit (.bool true)], args := [d1, d2] }
  | _ => none }
def supersedeOrderRow : OpenClaim := { program := "ytmjmichghfepkaa", sum := "65d5134f1ee4993003a59de6854a90082d0d0fe16db4c3f73a47fa729d393232", func := "bulletin/bulletinlaw41.SupersedeOrder", spec := "supersedeOrder", unfollowed := true, recurses := true, plainKeys := false, apart := false }
def SupersedeOrderSaid : Prop := supersedeOrderRow.holds Try.pinned (OpenSpec.ofChange supersedeOrderSpec)

/-- ITS FALSE NEIGHBOUR: 'it returns false'. Refute it at one input. -/
def supersedeOrderWrong : ChangeSpec := { name := "supersedeOrder", fn := fun _ => fun
  | [d1, d2] => { results := [.lit (.bool false)], args := [d1, d2] }
  | _ => none }
def SupersedeOrderWrongFalsely : Prop := supersedeOrderRow.holds Try.pinned (OpenSpec.ofChange supersedeOrderWrong)

/-- 'bulletinlaw41.SupersedeAlone': WHATEVER THE INPUT: true; the input reads as it did. -/
def supersedeAloneSpec : ChangeSpec := { name := "supersedeAlone", fn := fun _ => fun
  | [d1, d2] => { results := [.lit (.bool true)], args := [d1, d2] }
  | _ => none }
def supersedeAloneRow : OpenClaim := { program := "ytmjmichghfepkaa", sum := "65d5134f1ee4993003a59de6854a90082d0d0fe16db4c3f73a47fa729d393232", func := "bulletin/bulletinlaw41.SupersedeAlone", spec := "supersedeAlone", unfollowed := true, recurses := true, plainKeys := false, apart := false }
def SupersedeAloneSaid : Prop := supersedeAloneRow.holds Try.pinned (OpenSpec.ofChange supersedeAloneSpec)

/-- ITS FALSE NEIGHBOUR: 'it returns false'. Refute it at one input. -/
def supersedeAloneWrong : ChangeSpec := { name := "supersedeAlone", fn := fun _ => fun
  | [d1, d2] => { results := [.lit (.bool false)], args := [d1, d2] }
  | _ => none }
def SupersedeAloneWrongFalsely : Prop := supersedeAloneRow.holds Try.pinned (OpenSpec.ofChange supersedeAloneWrong)

/-- 'bulletinlaw41.SupersedeOne': WHATEVER THE INPUT: true; the input reads as it did. -/
def supersedeOneSpec : ChangeSpec := { name := "supersedeOne", fn := fun _ => fun
  | [d] => { results := [.lit (.bool true)], args := [d] }
  | _ => none }
def supersedeOneRow : OpenClaim := { program := "ytmjmichghfepkaa", sum := "65d5134f1ee4993003a59de6854a90082d0d0fe16db4c3f73a47fa729d393232", func := "bulletin/bulletinlaw41.SupersedeOne", spec := "supersedeOne", unfollowed := true, recurses := true, plainKeys := false, apart := false }
def SupersedeOneSaid : Prop := supersedeOneRow.holds Try.pinned (OpenSpec.ofChange supersedeOneSpec)

/-- ITS FALSE NEIGHBOUR: 'it returns false'. Refute it at one input. -/
def supersedeOneWrong : ChangeSpec := { name := "supersedeOne", fn := fun _ => fun
  | [d] => { results := [.lit (.bool false)], args := [d] }
  | _ => none }
def SupersedeOneWrongFalsely : Prop := supersedeOneRow.holds Try.pinned (OpenSpec.ofChange supersedeOneWrong)

/-- 'bulletinlaw41.SupersedeStays': WHATEVER THE INPUT: true; the input reads as it did. -/
def supersedeStaysSpec : ChangeSpec := { name := "supersedeStays", fn := fun _ => fun
  | [d1, d2, d3] => { results := [.lit (.bool true)], args := [d1, d2, d3] }
  | _ => none }
def supersedeStaysRow : OpenClaim := { program := "ytmjmichghfepkaa", sum := "65d5134f1ee4993003a59de6854a90082d0d0fe16db4c3f73a47fa729d393232", func := "bulletin/bulletinlaw41.SupersedeStays", spec := "supersedeStays", unfollowed := true, recurses := true, plainKeys := false, apart := false }
def SupersedeStaysSaid : Prop := supersedeStaysRow.holds Try.pinned (OpenSpec.ofChange supersedeStaysSpec)

/-- ITS FALSE NEIGHBOUR: 'it returns false'. Refute it at one input. -/
def supersedeStaysWrong : ChangeSpec := { name := "supersedeStays", fn := fun _ => fun
  | [d1, d2, d3] => { results := [.lit (.bool false)], args := [d1, d2, d3] }
  | _ => none }
def SupersedeStaysWrongFalsely : Prop := supersedeStaysRow.holds Try.pinned (OpenSpec.ofChange supersedeStaysWrong)

/-- 'bulletinlaw41.SupersedeDrops': WHATEVER THE INPUT: true; the input reads as it did. -/
def supersedeDropsSpec : ChangeSpec := { name := "supersedeDrops", fn := fun _ => fun
  | [d1, d2] => { results := [.lit (.bool true)], args := [d1, d2] }
  | _ => none }
def supersedeDropsRow : OpenClaim := { program := "ytmjmichghfepkaa", sum := "65d5134f1ee4993003a59de6854a90082d0d0fe16db4c3f73a47fa729d393232", func := "bulletin/bulletinlaw41.SupersedeDrops", spec := "supersedeDrops", unfollowed := true, recurses := true, plainKeys := false, apart := false }
def SupersedeDropsSaid : Prop := supersedeDropsRow.holds Try.pinned (OpenSpec.ofChange supersedeDropsSpec)

/-- ITS FALSE NEIGHBOUR: 'it returns false'. Refute it at one input. -/
def supersedeDropsWrong : ChangeSpec := { name := "supersedeDrops", fn := fun _ => fun
  | [d1, d2] => { results := [.lit (.bool false)], args := [d1, d2] }
  | _ => none }
def SupersedeDropsWrongFalsely : Prop := supersedeDropsRow.holds Try.pinned (OpenSpec.ofChange supersedeDropsWrong)

/-- 'bulletinlaw41.SupersedePaths': WHATEVER THE INPUT: true; the input reads as it did. -/
def supersedePathsSpec : ChangeSpec := { name := "supersedePaths", fn := fun _ => fun
  | [d] => { results := [.lit (.bool true)], args := [d] }
  | _ => none }
def supersedePathsRow : OpenClaim := { program := "ytmjmichghfepkaa", sum := "65d5134f1ee4993003a59de6854a90082d0d0fe16db4c3f73a47fa729d393232", func := "bulletin/bulletinlaw41.SupersedePaths", spec := "supersedePaths", unfollowed := true, recurses := true, plainKeys := false, apart := false }
def SupersedePathsSaid : Prop := supersedePathsRow.holds Try.pinned (OpenSpec.ofChange supersedePathsSpec)

/-- ITS FALSE NEIGHBOUR: 'it returns false'. Refute it at one input. -/
def supersedePathsWrong : ChangeSpec := { name := "supersedePaths", fn := fun _ => fun
  | [d] => { results := [.lit (.bool false)], args := [d] }
  | _ => none }
def SupersedePathsWrongFalsely : Prop := supersedePathsRow.holds Try.pinned (OpenSpec.ofChange supersedePathsWrong)

/-- 'bulletinlaw41.SupersedeSets': WHATEVER THE INPUT: true; the input reads as it did. -/
def supersedeSetsSpec : ChangeSpec := { name := "supersedeSets", fn := fun _ => fun
  | [d1, d2] => { results := [.lit (.bool true)], args := [d1, d2] }
  | _ => none }
def supersedeSetsRow : OpenClaim := { program := "ytmjmichghfepkaa", sum := "65d5134f1ee4993003a59de6854a90082d0d0fe16db4c3f73a47fa729d393232", func := "bulletin/bulletinlaw41.SupersedeSets", spec := "supersedeSets", unfollowed := true, recurses := true, plainKeys := false, apart := false }
def SupersedeSetsSaid : Prop := supersedeSetsRow.holds Try.pinned (OpenSpec.ofChange supersedeSetsSpec)

/-- ITS FALSE NEIGHBOUR: 'it returns false'. Refute it at one input. -/
def supersedeSetsWrong : ChangeSpec := { name := "supersedeSets", fn := fun _ => fun
  | [d1, d2] => { results := [.lit (.bool false)], args := [d1, d2] }
  | _ => none }
def SupersedeSetsWrongFalsely : Prop := supersedeSetsRow.holds Try.pinned (OpenSpec.ofChange supersedeSetsWrong)

/-- 'bulletinlaw41.SupersedeClones': WHATEVER THE INPUT: true; the input reads as it did. -/
def supersedeClonesSpec : ChangeSpec := { name := "supersedeClones", fn := fun _ => fun
  | [d1, d2, d3] => { results := [.lit (.bool true)], args := [d1, d2, d3] }
  | _ => none }
def supersedeClonesRow : OpenClaim := { program := "ytmjmichghfepkaa", sum := "65d5134f1ee4993003a59de6854a90082d0d0fe16db4c3f73a47fa729d393232", func := "bulletin/bulletinlaw41.SupersedeClones", spec := "supersedeClones", unfollowed := true, recurses := true, plainKeys := false, apart := false }
def SupersedeClonesSaid : Prop := supersedeClonesRow.holds Try.pinned (OpenSpec.ofChange supersedeClonesSpec)

/-- ITS FALSE NEIGHBOUR: 'it returns false'. Refute it at one input. -/
def supersedeClonesWrong : ChangeSpec := { name := "supersedeClones", fn := fun _ => fun
  | [d1, d2, d3] => { results := [.lit (.bool false)], args := [d1, d2, d3] }
  | _ => none }
def SupersedeClonesWrongFalsely : Prop := supersedeClonesRow.holds Try.pinned (OpenSpec.ofChange supersedeClonesWrong)

/- THE SECOND FORM. 'bulk': how many values and letters a reading holds, each counted each time it is reached (what is shared counts as often as it is met; a slice's spare places count too). A statement '..UptoSaid' is the law's where the arguments, and the package variables that the reading takes, are together of bulk at most 1048576: NARROWER than '..Said'. Prove '..Said' where nothing that the law and all that it calls make is longer than what came in: it says more and counts as full. Else prove '..UptoSaid'. A law counts once. -/
mutual
def uptoBulk {H : Type} : DataW H → Nat
  | .lit (.string bytes) => bytes.length + 1
  | .lit _ => 1
  | .nil => 1
  | .ptr d => uptoBulk d + 1
  | .slice elems spare => uptoBulkAll elems + uptoBulkAll spare + 1
  | .agg parts => uptoBulkAll parts + 1
  | .iface _ d => uptoBulk d + 1
  | .map entries => uptoBulkEntries entries + 1
  | .held _ => 1
def uptoBulkAll {H : Type} : List (DataW H) → Nat
  | [] => 0
  | d :: r => uptoBulk d + uptoBulkAll r
def uptoBulkEntries {H : Type} : List (Lit × DataW H) → Nat
  | [] => 0
  | x :: r => uptoBulkEntry x + uptoBulkEntries r
def uptoBulkEntry {H : Type} : Lit × DataW H → Nat
  | (.string bytes, d) => bytes.length + uptoBulk d + 1
  | (_, d) => uptoBulk d + 1
 end
def uptoSmall : (H : Type) → List (DataW H) → Bool := fun _ ds => decide (uptoBulkAll ds ≤ 1048576)
def OpenSpec.upto (s : _root_.Go.ChangeSpec) : _root_.Go.OpenSpec := { _root_.Go.OpenSpec.ofChange s with cond := some uptoSmall }

/-- 'bulletinlaw41.SupersedeValid', WHERE WHAT IT READS IS OF BULK AT MOST 1048576: true; the input reads as it did. -/
def supersedeValidUptoRow : OpenClaim := { program := "ytmjmichghfepkaa", sum := "65d5134f1ee4993003a59de6854a90082d0d0fe16db4c3f73a47fa729d393232", func := "bulletin/bulletinlaw41.SupersedeValid", spec := "supersedeValid", unfollowed := true, recurses := true, plainKeys := false, apart := false, narrowed := true }
def SupersedeValidUptoSaid : Prop := supersedeValidUptoRow.holds Try.pinned (OpenSpec.upto supersedeValidSpec)

/-- 'bulletinlaw41.SupersedeEnds', WHERE WHAT IT READS IS OF BULK AT MOST 1048576: true; the input reads as it did. -/
def supersedeEndsUptoRow : OpenClaim := { program := "ytmjmichghfepkaa", sum := "65d5134f1ee4993003a59de6854a90082d0d0fe16db4c3f73a47fa729d393232", func := "bulletin/bulletinlaw41.SupersedeEnds", spec := "supersedeEnds", unfollowed := true, recurses := true, plainKeys := false, apart := false, narrowed := true }
def SupersedeEndsUptoSaid : Prop := supersedeEndsUptoRow.holds Try.pinned (OpenSpec.upto supersedeEndsSpec)

/-- 'bulletinlaw41.SupersedeOrder', WHERE WHAT IT READS IS OF BULK AT MOST 1048576: true; the input reads as it did. -/
def supersedeOrderUptoRow : OpenClaim := { program := "ytmjmichghfepkaa", sum := "65d5134f1ee4993003a59de6854a90082d0d0fe16db4c3f73a47fa729d393232", func := "bulletin/bulletinlaw41.SupersedeOrder", spec := "supersedeOrder", unfollowed := true, recurses := true, plainKeys := false, apart := false, narrowed := true }
def SupersedeOrderUptoSaid : Prop := supersedeOrderUptoRow.holds Try.pinned (OpenSpec.upto supersedeOrderSpec)

/-- 'bulletinlaw41.SupersedeAlone', WHERE WHAT IT READS IS OF BULK AT MOST 1048576: true; the input reads as it did. -/
def supersedeAloneUptoRow : OpenClaim := { program := "ytmjmichghfepkaa", sum := "65d5134f1ee4993003a59de6854a90082d0d0fe16db4c3f73a47fa729d393232", func := "bulletin/bulletinlaw41.SupersedeAlone", spec := "supersedeAlone", unfollowed := true, recurses := true, plainKeys := false, apart := false, narrowed := true }
def SupersedeAloneUptoSaid : Prop := supersedeAloneUptoRow.holds Try.pinned (OpenSpec.upto supersedeAloneSpec)

/-- 'bulletinlaw41.SupersedeOne', WHERE WHAT IT READS IS OF BULK AT MOST 1048576: true; the input reads as it did. -/
def supersedeOneUptoRow : OpenClaim := { program := "ytmjmichghfepkaa", sum := "65d5134f1ee4993003a59de6854a90082d0d0fe16db4c3f73a47fa729d393232", func := "bulletin/bulletinlaw41.SupersedeOne", spec := "supersedeOne", unfollowed := true, recurses := true, plainKeys := false, apart := false, narrowed := true }
def SupersedeOneUptoSaid : Prop := supersedeOneUptoRow.holds Try.pinned (OpenSpec.upto supersedeOneSpec)

/-- 'bulletinlaw41.SupersedeStays', WHERE WHAT IT READS IS OF BULK AT MOST 1048576: true; the input reads as it did. -/
def supersedeStaysUptoRow : OpenClaim := { program := "ytmjmichghfepkaa", sum := "65d5134f1ee4993003a59de6854a90082d0d0fe16db4c3f73a47fa729d393232", func := "bulletin/bulletinlaw41.SupersedeStays", spec := "supersedeStays", unfollowed := true, recurses := true, plainKeys := false, apart := false, narrowed := true }
def SupersedeStaysUptoSaid : Prop := supersedeStaysUptoRow.holds Try.pinned (OpenSpec.upto supersedeStaysSpec)

/-- 'bulletinlaw41.SupersedeDrops', WHERE WHAT IT READS IS OF BULK AT MOST 1048576: true; the input reads as it did. -/
def supersedeDropsUptoRow : OpenClaim := { program := "ytmjmichghfepkaa", sum := "65d5134f1ee4993003a59de6854a90082d0d0fe16db4c3f73a47fa729d393232", func := "bulletin/bulletinlaw41.SupersedeDrops", spec := "supersedeDrops", unfollowed := true, recurses := true, plainKeys := false, apart := false, narrowed := true }
def SupersedeDropsUptoSaid : Prop := supersedeDropsUptoRow.holds Try.pinned (OpenSpec.upto supersedeDropsSpec)

/-- 'bulletinlaw41.SupersedePaths', WHERE WHAT IT READS IS OF BULK AT MOST 1048576: true; the input reads as it did. -/
def supersedePathsUptoRow : OpenClaim := { program := "ytmjmichghfepkaa", sum := "65d5134f1ee4993003a59de6854a90082d0d0fe16db4c3f73a47fa729d393232", func := "bulletin/bulletinlaw41.SupersedePaths", spec := "supersedePaths", unfollowed := true, recurses := true, plainKeys := false, apart := false, narrowed := true }
def SupersedePathsUptoSaid : Prop := supersedePathsUptoRow.holds Try.pinned (OpenSpec.upto supersedePathsSpec)

/-- 'bulletinlaw41.SupersedeSets', WHERE WHAT IT READS IS OF BULK AT MOST 1048576: true; the input reads as it did. -/
def supersedeSetsUptoRow : OpenClaim := { program := "ytmjmichghfepkaa", sum := "65d5134f1ee4993003a59de6854a90082d0d0fe16db4c3f73a47fa729d393232", func := "bulletin/bulletinlaw41.SupersedeSets", spec := "supersedeSets", unfollowed := true, recurses := true, plainKeys := false, apart := false, narrowed := true }
def SupersedeSetsUptoSaid : Prop := supersedeSetsUptoRow.holds Try.pinned (OpenSpec.upto supersedeSetsSpec)

/-- 'bulletinlaw41.SupersedeClones', WHERE WHAT IT READS IS OF BULK AT MOST 1048576: true; the input reads as it did. -/
def supersedeClonesUptoRow : OpenClaim := { program := "ytmjmichghfepkaa", sum := "65d5134f1ee4993003a59de6854a90082d0d0fe16db4c3f73a47fa729d393232", func := "bulletin/bulletinlaw41.SupersedeClones", spec := "supersedeClones", unfollowed := true, recurses := true, plainKeys := false, apart := false, narrowed := true }
def SupersedeClonesUptoSaid : Prop := supersedeClonesUptoRow.holds Try.pinned (OpenSpec.upto supersedeClonesSpec)

end Rows
end Go.Proofs.Ytmjmichghfepkaa
