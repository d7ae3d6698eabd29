/-
  Pointers, identities as keys of maps.
-/
import Derived.Test.YtifghjeapfijkaaGreatDoorMapOps
import Derived.Test.YtifghjeapfijkaaGreatDoorTypes
namespace Go.Proofs.YtifghjeapfijkaaGreatDoor
open Go.Eng Go.RowKit

@[reducible] def ptr (p : Nat) : Value := .pointer (some ⟨p, 0, none⟩)
/-- a key of maps -/
abbrev ekI (a : Vec 32) : Value := .agg (encV a).toArray
instance : KeyEnc Tryz.prog 45 ekI := KeyEnc.of (enc := encV) Tryz.lv45 (by decide) Tryz.underlying45 rfl (fun a => fitsN a.2) cellsEq_vec
end Go.Proofs.YtifghjeapfijkaaGreatDoor
