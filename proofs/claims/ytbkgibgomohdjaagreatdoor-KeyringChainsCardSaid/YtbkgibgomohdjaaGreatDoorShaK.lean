/-
 The identities of the few keys that occur differ.
-/
import Derived.Test.YtbkgibgomohdjaaGreatDoorShaF
namespace Go.Proofs.YtbkgibgomohdjaaGreatDoor
open Go.Eng Go.RowKit Go.Sort
/-- the keys that a statement makes: height, and the byte of the root -/
def famR (k : Nat) : Vec 16 := ⟨UInt8.ofNat k :: 7 :: UInt8.ofNat k :: List.replicate 13 0, rfl⟩
def famP (h k : Nat) : PK := ⟨h, famR k⟩
end Go.Proofs.YtbkgibgomohdjaaGreatDoor
