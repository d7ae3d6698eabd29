/-
  Function values compared with nil (over any program).
-/
import Derived.Test.YtifghjeapfijkaaGreatDoorEngOwn
namespace Go.Eng
open Go.RowKit
variable {P : Program} {Q : Post} {n : Nn} {g : Env} {w : World} {dst : Option Nat} {ty : TypeId} {pos : String} {af : Array Edge} {gu : Option (Nat × Bool)}
variable {t t' : TypeId} {x y : Operand}
theorem E.nilFuncT {ps rs : Array TypeId} {vr : Bool} (hx : look g x = some .nilFunc) (hy : look g y = some .nilFunc) (hu : P.underlying t = some (.func ps rs vr)) : Ev P n g ⟨dst, .binOp .eql t x y t', ty, pos, af, gu⟩ w (.bool true) := fun a f => by
  have : (Op.equal t .nilFunc .nilFunc).run P w = .ok true w := by
    show (Op.equalIn (9999 + 1) t .nilFunc .nilFunc).run P w = _
    unfold Op.equalIn
    simp [run_underlying hu]
  simp [execOp, f.eval hx, f.eval hy, eqGuard, binOp, this]
theorem E.nilFuncF {ps rs : Array TypeId} {vr : Bool} {fn : Fn} {a1 a2 : Array Value} (hx : look g x = some (.func fn a1 a2)) (hy : look g y = some .nilFunc) (hu : P.underlying t = some (.func ps rs vr)) : Ev P n g ⟨dst, .binOp .eql t x y t', ty, pos, af, gu⟩ w (.bool false) := fun a f => by
  have : (Op.equal t (.func fn a1 a2) .nilFunc).run P w = .ok false w := by
    show (Op.equalIn (9999 + 1) t (.func fn a1 a2) .nilFunc).run P w = _
    unfold Op.equalIn
    simp [run_underlying hu]
  simp [execOp, f.eval hx, f.eval hy, eqGuard, binOp, this]
end Go.Eng
