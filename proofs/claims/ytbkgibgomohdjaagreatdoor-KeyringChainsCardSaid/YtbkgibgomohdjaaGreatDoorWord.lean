/-
 Words of 32 bits: the operations (over any program).
-/
import Derived.Test.YtbkgibgomohdjaaGreatDoorEngSl
namespace Go.Eng
open Go.RowKit
@[reducible] def uw (x : BitVec 32) : Value := .int .u32 (x.toNat : Int)
theorem wrap32 (x : BitVec 32) : IntKind.u32.wrap (x.toNat : Int) = (x.toNat : Int) := by
 have := x.isLt
 rw [show IntKind.u32.wrap (x.toNat : Int) = ((x.toNat : Int)) % 4294967296 from rfl]; omega
theorem ofInt32 (x : BitVec 32) : BitVec.ofInt 32 (x.toNat : Int) = x := by
 apply BitVec.eq_of_toNat_eq
 rw [BitVec.toNat_ofInt]
 have := x.isLt
 omega
section
variable {P : Program} {n : Nn} {g : Env} {w : World} {dst : Option Nat} {ty : TypeId} {pos : String} {af : Array Edge} {gu : Option (Nat × Bool)} {x y : Operand} {t t' : TypeId} {a b : BitVec 32}
theorem E.wadd (hx : look g x = some (uw a)) (hy : look g y = some (uw b)) : Ev P n g ⟨dst, .binOp .add t x y t', ty, pos, af, gu⟩ w (uw (a + b)) :=
 (E.addW hx hy).isI (by
   rw [show IntKind.u32.wrap ((a.toNat : Int) + b.toNat) = ((a.toNat : Int) + b.toNat) % 4294967296 from rfl, BitVec.toNat_add]; omega)
theorem E.wand (hx : look g x = some (uw a)) (hy : look g y = some (uw b)) : Ev P n g ⟨dst, .binOp .and t x y t', ty, pos, af, gu⟩ w (uw (a &&& b)) :=
 (E.and hx hy).isI (by
   have : (BitVec.ofInt IntKind.u32.bits (a.toNat : Int) &&& BitVec.ofInt IntKind.u32.bits (b.toNat : Int)) = (a &&& b) := by
     show (BitVec.ofInt 32 (a.toNat : Int) &&& BitVec.ofInt 32 (b.toNat : Int)) = _; rw [ofInt32, ofInt32]
   rw [this]; exact wrap32 _)
theorem E.wxor (hx : look g x = some (uw a)) (hy : look g y = some (uw b)) : Ev P n g ⟨dst, .binOp .xor t x y t', ty, pos, af, gu⟩ w (uw (a ^^^ b)) :=
 (E.xor hx hy).isI (by
   have : (BitVec.ofInt IntKind.u32.bits (a.toNat : Int) ^^^ BitVec.ofInt IntKind.u32.bits (b.toNat : Int)) = (a ^^^ b) := by
     show (BitVec.ofInt 32 (a.toNat : Int) ^^^ BitVec.ofInt 32 (b.toNat : Int)) = _; rw [ofInt32, ofInt32]
   rw [this]; exact wrap32 _)
theorem E.orW {k : IntKind} {i j : Int} (hx : look g x = some (.int k i)) (hy : look g y = some (.int k j)) : Ev P n g ⟨dst, .binOp .or t x y t', ty, pos, af, gu⟩ w (.int k (k.wrap (BitVec.ofInt k.bits i ||| BitVec.ofInt k.bits j).toNat)) := fun a f => by
 simp [execOp, f.eval hx, f.eval hy, eqGuard, binOp, Op.intBits]
theorem E.xorU {i : Int} (hx : look g x = some (.int .u32 i)) : Ev P n g ⟨dst, .unOp .xor t x, ty, pos, af, gu⟩ w (.int .u32 (IntKind.u32.wrap (BitVec.ofInt IntKind.u32.bits 4294967295 ^^^ BitVec.ofInt IntKind.u32.bits i).toNat)) := fun a f => by
 have hm : (if IntKind.u32.signed = true then (-1 : Int) else IntKind.u32.max) = 4294967295 := by decide
 simp [execOp, f.eval hx, Op.unary, Op.intBits, hm]
theorem E.wor (hx : look g x = some (uw a)) (hy : look g y = some (uw b)) : Ev P n g ⟨dst, .binOp .or t x y t', ty, pos, af, gu⟩ w (uw (a ||| b)) :=
 (E.orW hx hy).isI (by
   have : (BitVec.ofInt IntKind.u32.bits (a.toNat : Int) ||| BitVec.ofInt IntKind.u32.bits (b.toNat : Int)) = (a ||| b) := by
     show (BitVec.ofInt 32 (a.toNat : Int) ||| BitVec.ofInt 32 (b.toNat : Int)) = _; rw [ofInt32, ofInt32]
   rw [this]; exact wrap32 _)
theorem E.wnot (hx : look g x = some (uw a)) : Ev P n g ⟨dst, .unOp .xor t x, ty, pos, af, gu⟩ w (uw (~~~ a)) :=
 (E.xorU hx).isI (by
   have : (BitVec.ofInt IntKind.u32.bits (4294967295 : Int) ^^^ BitVec.ofInt IntKind.u32.bits (a.toNat : Int)) = ~~~ a := by
     show (BitVec.ofInt 32 (4294967295 : Int) ^^^ BitVec.ofInt 32 (a.toNat : Int)) = _
     rw [ofInt32, show BitVec.ofInt 32 (4294967295 : Int) = BitVec.allOnes 32 by decide, BitVec.allOnes_xor]
   rw [this]; exact wrap32 _)
theorem E.wshr {k' : IntKind} {j : Nat} (hx : look g x = some (uw a)) (hy : look g y = some (.int k' (j : Int))) (hj : j ≤ 32) : Ev P n g ⟨dst, .binOp .shr t x y t', ty, pos, af, gu⟩ w (uw (a >>> j)) :=
 (E.shr hx hy (by omega)).isI (by
   rw [show min (j : Int).toNat IntKind.u32.bits = j by rw [Int.toNat_natCast]; exact Nat.min_eq_left hj, Int.fdiv_eq_ediv_of_nonneg _ (by exact Int.le_of_lt (Int.pow_pos (by decide))), BitVec.toNat_ushiftRight, Nat.shiftRight_eq_div_pow]
   simp)
theorem E.wshl {k' : IntKind} {j : Nat} (hx : look g x = some (uw a)) (hy : look g y = some (.int k' (j : Int))) (hj : j ≤ 32) : Ev P n g ⟨dst, .binOp .shl t x y t', ty, pos, af, gu⟩ w (uw (a <<< j)) :=
 (E.shl hx hy (by omega)).isI (by
   rw [show min (j : Int).toNat IntKind.u32.bits = j by rw [Int.toNat_natCast]; exact Nat.min_eq_left hj, BitVec.toNat_shiftLeft, Nat.shiftLeft_eq]
   rw [show ∀ z : Int, IntKind.u32.wrap z = z % 4294967296 from fun _ => rfl]
   simp)
theorem E.wconv {c : UInt8} {td : TypeDesc} (hx : look g x = some (ub c)) (hu : P.underlying t = some td) (hu2 : P.underlying t' = some (.int .u32)) : Ev P n g ⟨dst, .convert t t' x, ty, pos, af, gu⟩ w (uw (c.toBitVec.setWidth 32)) :=
 (E.conv hx hu hu2).isI (by
   rw [show IntKind.u32.wrap (c.toNat : Int) = (c.toNat : Int) % 4294967296 from rfl, BitVec.toNat_setWidth]
   have := c.toNat_lt
   show _ = ((c.toNat % 2 ^ 32 : Nat) : Int)
   omega)
theorem E.bconv {td : TypeDesc} (hx : look g x = some (uw a)) (hu : P.underlying t = some td) (hu2 : P.underlying t' = some (.int .u8)) : Ev P n g ⟨dst, .convert t t' x, ty, pos, af, gu⟩ w (ub (UInt8.ofNat a.toNat)) :=
 (E.conv hx hu hu2).isI (by
   rw [show IntKind.u8.wrap (a.toNat : Int) = (a.toNat : Int) % 256 from rfl, UInt8.toNat_ofNat']
   omega)
end
end Go.Eng
