/-
  The operations that only compute, one lemma each (over any program).
-/
import Derived.Test.YtifghjeapfijkaaGreatDoorEng
import Derived.WalkKit
import Derived.WalkSpells
import Derived.WalkLawsBesides
namespace Go.Eng
open Go.RowKit

/-- a string out of its bytes -/
@[reducible] def str (l : List UInt8) : Value := .string ⟨⟨l⟩⟩
@[reducible] def ub (b : UInt8) : Value := .int .u8 (b.toNat : Int)

section ops
variable {P : Program} {n : Nn} {g : Env} {w : World} {dst : Option Nat} {ty : TypeId} {pos : String} {af : Array Edge} {gu : Option (Nat × Bool)}

theorem E.move {x : Operand} {v : Value} (hx : look g x = some v) : Ev P n g ⟨dst, .move x, ty, pos, af, gu⟩ w v := fun a f => by
  simp [execOp, f.eval hx]
theorem E.assign {x : Operand} {v : Value} (hx : look g x = some v) : Ev P n g ⟨dst, .assign x, ty, pos, af, gu⟩ w v := fun a f => by
  simp [execOp, f.eval hx]
theorem E.pickT {c x y : Operand} {v : Value} (hc : look g c = some (.bool true)) (hx : look g x = some v) : Ev P n g ⟨dst, .pick c x y, ty, pos, af, gu⟩ w v := fun a f => by
  simp [execOp, f.eval hc, f.eval hx, asBool]
theorem E.pickF {c x y : Operand} {v : Value} (hc : look g c = some (.bool false)) (hx : look g y = some v) : Ev P n g ⟨dst, .pick c x y, ty, pos, af, gu⟩ w v := fun a f => by
  simp [execOp, f.eval hc, f.eval hx, asBool]
theorem E.not {x : Operand} {b : Bool} {t : TypeId} (hx : look g x = some (.bool b)) : Ev P n g ⟨dst, .unOp .not t x, ty, pos, af, gu⟩ w (.bool (!b)) := fun a f => by
  simp [execOp, f.eval hx, Op.unary]
theorem E.notT {x : Operand} {t : TypeId} (hx : look g x = some (.bool true)) : Ev P n g ⟨dst, .unOp .not t x, ty, pos, af, gu⟩ w (.bool false) := E.not hx
theorem E.notF {x : Operand} {t : TypeId} (hx : look g x = some (.bool false)) : Ev P n g ⟨dst, .unOp .not t x, ty, pos, af, gu⟩ w (.bool true) := E.not hx

section cmp
variable {x y : Operand} {t t' : TypeId} {k : IntKind} {i j : Int}
theorem E.lss (hx : look g x = some (.int k i)) (hy : look g y = some (.int k j)) : Ev P n g ⟨dst, .binOp .lss t x y t', ty, pos, af, gu⟩ w (.bool (decide (i < j))) := fun a f => by
  simp [execOp, f.eval hx, f.eval hy, eqGuard, binOp, Op.intCmp]
theorem E.leq (hx : look g x = some (.int k i)) (hy : look g y = some (.int k j)) : Ev P n g ⟨dst, .binOp .leq t x y t', ty, pos, af, gu⟩ w (.bool (decide (i ≤ j))) := fun a f => by
  simp [execOp, f.eval hx, f.eval hy, eqGuard, binOp, Op.intCmp]
theorem E.gtr (hx : look g x = some (.int k i)) (hy : look g y = some (.int k j)) : Ev P n g ⟨dst, .binOp .gtr t x y t', ty, pos, af, gu⟩ w (.bool (decide (j < i))) := fun a f => by
  simp [execOp, f.eval hx, f.eval hy, eqGuard, binOp, Op.intCmp]
theorem E.geq (hx : look g x = some (.int k i)) (hy : look g y = some (.int k j)) : Ev P n g ⟨dst, .binOp .geq t x y t', ty, pos, af, gu⟩ w (.bool (decide (j ≤ i))) := fun a f => by
  simp [execOp, f.eval hx, f.eval hy, eqGuard, binOp, Op.intCmp]
theorem E.eql (hx : look g x = some (.int k i)) (hy : look g y = some (.int k j)) : Ev P n g ⟨dst, .binOp .eql t x y t', ty, pos, af, gu⟩ w (.bool (decide (i = j))) := fun a f => by
  simp [execOp, f.eval hx, f.eval hy, eqGuard, binOp, Op.intCmp]
  rfl
theorem E.neq (hx : look g x = some (.int k i)) (hy : look g y = some (.int k j)) : Ev P n g ⟨dst, .binOp .neq t x y t', ty, pos, af, gu⟩ w (.bool (decide (i ≠ j))) := fun a f => by
  simp [execOp, f.eval hx, f.eval hy, eqGuard, binOp, Op.intCmp]
  rfl
theorem Ev.isT {o : Oper} {p : Prop} [Decidable p] (h : Ev P n g o w (.bool (decide p))) (hp : p) : Ev P n g o w (.bool true) := by rwa [decide_eq_true hp] at h
theorem Ev.isF {o : Oper} {p : Prop} [Decidable p] (h : Ev P n g o w (.bool (decide p))) (hp : ¬ p) : Ev P n g o w (.bool false) := by rwa [decide_eq_false hp] at h
theorem Ev.as {o : Oper} {v u : Value} (h : Ev P n g o w v) (e : v = u) : Ev P n g o w u := e ▸ h
theorem Ev.isB {o : Oper} {b c : Bool} (h : Ev P n g o w (.bool b)) (e : b = c) : Ev P n g o w (.bool c) := e ▸ h
theorem Ev.isI {o : Oper} {k : IntKind} {b c : Int} (h : Ev P n g o w (.int k b)) (e : b = c) : Ev P n g o w (.int k c) := e ▸ h

/-! arithmetic -/
theorem E.addW (hx : look g x = some (.int k i)) (hy : look g y = some (.int k j)) : Ev P n g ⟨dst, .binOp .add t x y t', ty, pos, af, gu⟩ w (.int k (k.wrap (i + j))) := fun a f => by
  simp [execOp, f.eval hx, f.eval hy, eqGuard, binOp, Op.intArith]
theorem E.subW (hx : look g x = some (.int k i)) (hy : look g y = some (.int k j)) : Ev P n g ⟨dst, .binOp .sub t x y t', ty, pos, af, gu⟩ w (.int k (k.wrap (i - j))) := fun a f => by
  simp [execOp, f.eval hx, f.eval hy, eqGuard, binOp, Op.intArith]
theorem E.mulW (hx : look g x = some (.int k i)) (hy : look g y = some (.int k j)) : Ev P n g ⟨dst, .binOp .mul t x y t', ty, pos, af, gu⟩ w (.int k (k.wrap (i * j))) := fun a f => by
  simp [execOp, f.eval hx, f.eval hy, eqGuard, binOp, Op.intArith]
theorem E.remW (hx : look g x = some (.int k i)) (hy : look g y = some (.int k j)) (h0 : j ≠ 0) : Ev P n g ⟨dst, .binOp .rem t x y t', ty, pos, af, gu⟩ w (.int k (i.tmod j)) := fun a f => by
  simp [execOp, f.eval hx, f.eval hy, eqGuard, binOp, Op.intDiv, h0]
theorem E.quoW (hx : look g x = some (.int k i)) (hy : look g y = some (.int k j)) (h0 : j ≠ 0) : Ev P n g ⟨dst, .binOp .quo t x y t', ty, pos, af, gu⟩ w (.int k (k.wrap (i.tdiv j))) := fun a f => by
  simp [execOp, f.eval hx, f.eval hy, eqGuard, binOp, Op.intDiv, h0]
theorem wrap_i64 {i : Int} (h1 : -9223372036854775808 ≤ i) (h2 : i ≤ 9223372036854775807) : IntKind.i64.wrap i = i := IntWalk.i64_in i ⟨h1, h2⟩
theorem E.add (hx : look g x = some (.int .i64 i)) (hy : look g y = some (.int .i64 j)) (h1 : -9223372036854775808 ≤ i + j) (h2 : i + j ≤ 9223372036854775807) : Ev P n g ⟨dst, .binOp .add t x y t', ty, pos, af, gu⟩ w (.int .i64 (i + j)) :=
  (E.addW hx hy).isI (wrap_i64 h1 h2)
theorem E.sub (hx : look g x = some (.int .i64 i)) (hy : look g y = some (.int .i64 j)) (h1 : -9223372036854775808 ≤ i - j) (h2 : i - j ≤ 9223372036854775807) : Ev P n g ⟨dst, .binOp .sub t x y t', ty, pos, af, gu⟩ w (.int .i64 (i - j)) :=
  (E.subW hx hy).isI (wrap_i64 h1 h2)
theorem E.mul (hx : look g x = some (.int .i64 i)) (hy : look g y = some (.int .i64 j)) (h1 : -9223372036854775808 ≤ i * j) (h2 : i * j ≤ 9223372036854775807) : Ev P n g ⟨dst, .binOp .mul t x y t', ty, pos, af, gu⟩ w (.int .i64 (i * j)) :=
  (E.mulW hx hy).isI (wrap_i64 h1 h2)
theorem E.rem (hx : look g x = some (.int k i)) (hy : look g y = some (.int k j)) (h0 : j ≠ 0) (h1 : 0 ≤ i) : Ev P n g ⟨dst, .binOp .rem t x y t', ty, pos, af, gu⟩ w (.int k (i % j)) :=
  (E.remW hx hy h0).isI (Int.tmod_eq_emod_of_nonneg h1)
theorem E.quo (hx : look g x = some (.int .i64 i)) (hy : look g y = some (.int .i64 j)) (h0 : 0 < j) (h1 : 0 ≤ i) (h2 : i ≤ 9223372036854775807) : Ev P n g ⟨dst, .binOp .quo t x y t', ty, pos, af, gu⟩ w (.int .i64 (i / j)) :=
  (E.quoW hx hy (by omega)).isI (by
    rw [Int.tdiv_eq_ediv_of_nonneg h1]
    have : 0 ≤ i / j := Int.ediv_nonneg h1 (by omega)
    have : i / j ≤ i := Int.ediv_le_self _ h1
    exact wrap_i64 (by omega) (by omega))
/-! bits and shifts, as the model has them -/
theorem E.shr {k' : IntKind} (hx : look g x = some (.int k i)) (hy : look g y = some (.int k' j)) (h0 : 0 ≤ j) : Ev P n g ⟨dst, .binOp .shr t x y t', ty, pos, af, gu⟩ w (.int k (i.fdiv (2 ^ (min j.toNat k.bits)))) := fun a f => by
  simp [execOp, f.eval hx, f.eval hy, eqGuard, binOp, Op.shift, Int.not_lt.2 h0]
theorem E.shl {k' : IntKind} (hx : look g x = some (.int k i)) (hy : look g y = some (.int k' j)) (h0 : 0 ≤ j) : Ev P n g ⟨dst, .binOp .shl t x y t', ty, pos, af, gu⟩ w (.int k (k.wrap (i * 2 ^ (min j.toNat k.bits)))) := fun a f => by
  simp [execOp, f.eval hx, f.eval hy, eqGuard, binOp, Op.shift, Int.not_lt.2 h0]
theorem E.and (hx : look g x = some (.int k i)) (hy : look g y = some (.int k j)) : Ev P n g ⟨dst, .binOp .and t x y t', ty, pos, af, gu⟩ w (.int k (k.wrap (BitVec.ofInt k.bits i &&& BitVec.ofInt k.bits j).toNat)) := fun a f => by
  simp [execOp, f.eval hx, f.eval hy, eqGuard, binOp, Op.intBits]
theorem E.or (hx : look g x = some (.int k i)) (hy : look g y = some (.int k j)) : Ev P n g ⟨dst, .binOp .or t x y t', ty, pos, af, gu⟩ w (.int k (k.wrap (BitVec.ofInt k.bits i ||| BitVec.ofInt k.bits j).toNat)) := fun a f => by
  simp [execOp, f.eval hx, f.eval hy, eqGuard, binOp, Op.intBits]
theorem E.xor (hx : look g x = some (.int k i)) (hy : look g y = some (.int k j)) : Ev P n g ⟨dst, .binOp .xor t x y t', ty, pos, af, gu⟩ w (.int k (k.wrap (BitVec.ofInt k.bits i ^^^ BitVec.ofInt k.bits j).toNat)) := fun a f => by
  simp [execOp, f.eval hx, f.eval hy, eqGuard, binOp, Op.intBits]
theorem E.negW (hx : look g x = some (.int k i)) : Ev P n g ⟨dst, .unOp .neg t x, ty, pos, af, gu⟩ w (.int k (k.wrap (0 - i))) := fun a f => by
  simp [execOp, f.eval hx, Op.unary, Op.intArith]
theorem E.neg (hx : look g x = some (.int .i64 i)) (h1 : -9223372036854775807 ≤ i) (h2 : i ≤ 9223372036854775807) : Ev P n g ⟨dst, .unOp .neg t x, ty, pos, af, gu⟩ w (.int .i64 (-i)) :=
  (E.negW hx).isI (by rw [wrap_i64 (by omega) (by omega)]; omega)
theorem E.eqlB {a b : Bool} (hx : look g x = some (.bool a)) (hy : look g y = some (.bool b)) (hu : P.underlying t = some .bool) : Ev P n g ⟨dst, .binOp .eql t x y t', ty, pos, af, gu⟩ w (.bool (a == b)) := fun s f => by
  have := run_equalIn_bool (P := P) w 9999 t a b hu
  simp [execOp, f.eval hx, f.eval hy, eqGuard, binOp, Op.equal, Op.maxDepth, this]
theorem E.neqB {a b : Bool} (hx : look g x = some (.bool a)) (hy : look g y = some (.bool b)) (hu : P.underlying t = some .bool) : Ev P n g ⟨dst, .binOp .neq t x y t', ty, pos, af, gu⟩ w (.bool (a != b)) := fun s f => by
  have := run_equalIn_bool (P := P) w 9999 t a b hu
  simp [execOp, f.eval hx, f.eval hy, eqGuard, binOp, Op.equal, Op.maxDepth, this, bne]
end cmp
end ops
end Go.Eng
