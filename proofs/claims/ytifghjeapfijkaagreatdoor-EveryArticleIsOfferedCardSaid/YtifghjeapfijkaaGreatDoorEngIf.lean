/-
  Interface values: made, asserted, called; what is frozen read cell by cell; []byte(s) as a piece (over any program).
-/
import Derived.Test.YtifghjeapfijkaaGreatDoorByt
namespace Go.Eng
open Go.RowKit

def notIf : TypeDesc → Bool
  | .interface _ => false
  | _ => true
instance {u : TypeId} {v : Value} : OneC (.iface u v) := ⟨rfl⟩
section ops
variable {P : Program} {Q : Post} {n : Nn} {g : Env} {w : World} {dst : Option Nat} {ty : TypeId} {pos : String} {af : Array Edge} {gu : Option (Nat × Bool)} {ops : Array Oper} {rest : List Oper} {d : Nat}
variable {t t' u : TypeId} {x y z : Operand} {K K' : Kn} {Hs Rs : List Hl} {F : Hl}
theorem E.mkIface {v : Value} {td : TypeDesc} (hx : look g x = some v) (hu : P.underlying t = some td) (hn : notIf td = true) : Ev P n g ⟨dst, .makeInterface t x, ty, pos, af, gu⟩ w (.iface t v) := fun a f => by
  have : (Instr.makeInterface t v).run P w = .ok (.iface t v) w := by
    simp only [Instr.makeInterface, Sem.run_bind, run_underlying hu, Result.andThen_ok]
    cases td <;> first | rfl | simp [notIf] at hn
  simp [execOp, f.eval hx, this]
theorem E.assertT {v : Value} {td : TypeDesc} (hx : look g x = some (.iface t v)) (hu : P.underlying t = some td) (hn : notIf td = true) : Ev P n g ⟨dst, .typeAssert x t' t true, ty, pos, af, gu⟩ w (.tuple #[v, .bool true]) := fun a f => by
  have : (Instr.typeAssert (.iface t v) t' t true).run P w = .ok (.tuple #[v, .bool true]) w := by
    simp only [Instr.typeAssert, Sem.run_bind, run_underlying hu, Result.andThen_ok]
    cases td <;> first | (simp [notIf] at hn; done) | simp
  simp [execOp, f.eval hx, this]
theorem E.assertF {v zv : Value} {td : TypeDesc} (hx : look g x = some (.iface u v)) (hne : Nat.beq u t = false) (hu : P.underlying t = some td) (hn : notIf td = true) (hz : zeroOf P t = some zv) : Ev P n g ⟨dst, .typeAssert x t' t true, ty, pos, af, gu⟩ w (.tuple #[zv, .bool false]) := fun a f => by
  have hne : u ≠ t := Nat.ne_of_beq_eq_false hne
  have : (Instr.typeAssert (.iface u v) t' t true).run P w = .ok (.tuple #[zv, .bool false]) w := by
    simp only [Instr.typeAssert, Sem.run_bind, run_underlying hu, Result.andThen_ok]
    cases td <;> first | (simp [notIf] at hn; done) | simp [hne, run_zeroOf hz]
  simp [execOp, f.eval hx, this]
/-- a call through an interface -/
theorem R.invoke {fid : FuncId} {args : List Operand} {rv v' : Value} {vs : List Value} {name : String} {tys : Array TypeId} {F : Value → World → Prop}
    (hf : Callable P fid) (hx : look g x = some (.iface u rv)) (hm : (Go.method (P.types.size + Made.depth) u rv name).run P w = .ok (fid, v') w) (ha : lookAll g args = some vs) (hd : Nat.blt d n.sz = true)
    (hc : Ret P fid (v' :: vs).toArray w F) (k : ∀ v w', F v w' → R P ops Q rest n ((d, v) :: g) w') :
    R P ops Q (⟨some d, .call ⟨.invoke x name, args.toArray, tys⟩, ty, pos, af, none⟩ :: rest) n g w := fun a f => by
  refine wpList_plain rfl fun K hK => ?_
  unfold Oper.wp
  obtain ⟨fn, c, hf, hb, hnm⟩ := hf
  have hnm' : ¬ fn.name = "runtime.NumGoroutine" := by simpa using hnm
  have : (execOp a.eval ⟨some d, .call ⟨.invoke x name, args.toArray, tys⟩, ty, pos, af, none⟩).run P w = .ok (.enter fid (v' :: vs).toArray) w := by
    simp [execOp, resolve, f.eval hx, Go.invoke, callMethod, hm, callFunc, hf, hb, hnm', f.evalAll ha]
  rw [this, Oper.upon_enter]
  refine Calls.mono hc ?_
  rintro e w' ⟨v, rfl, hF⟩
  exact hK _ _ (k v w' hF _ (f.put hd v))

/-! what is frozen, cell by cell -/
class KCel (K : Kn) (b : Nat) (l : outParam (List Value)) : Prop where
  ex : ∃ t, K.ro b = some (.cells l.toArray t (0, 0))
instance KCel.mono {b : Nat} {l : List Value} [k : KLe K K'] [h : KCel K b l] : KCel K' b l := ⟨by
  obtain ⟨t, e⟩ := h.ex
  exact ⟨t, k.le.ro _ _ e⟩⟩
theorem KCel.blk {b : Nat} {l : List Value} (h : KCel K b l) (hs : Sat K w Hs) : ∃ t, Blk w b t l := by
  obtain ⟨t, e⟩ := h.ex
  exact ⟨t, hs.ro b _ e⟩
theorem Sat.ldK {b j : Nat} {l : List Value} {v : Value} (hs : Sat K w Hs) [h : KCel K b l] (hv : l[j]? = some v) : w.cell? ⟨b, j, none⟩ = some v := by
  obtain ⟨t, e⟩ := h.blk hs
  rw [e.cell]; exact hv
theorem KCel.of {b : Nat} {t : TypeId} {l : List Value} (hs : Sat K w (row b t l :: Rs)) : ∃ K', KLe K K' ∧ KCel K' b l ∧ Sat K' w Rs := by
  obtain ⟨h1, h2, h3⟩ := hs.freeze
  exact ⟨_, ⟨h1⟩, ⟨t, h3 (b, .cells l.toArray t (0, 0)) (by simp [row])⟩, h2⟩

/-! []byte(s): a piece of its own -/
class RB (v : Value) (l : outParam (List UInt8)) (F : outParam Hl) : Prop where
  ex : ∃ b cap e zs fr, v = .slice (some ⟨b, 0, none⟩) l.length cap ∧ l.length ≤ cap ∧ F = [(b, .cells (l.map ub ++ zs).toArray e fr)]
theorem RB.val {v : Value} {l : List UInt8} (h : RB v l F) : ∃ b cap, v = .slice (some ⟨b, 0, none⟩) l.length cap ∧ l.length ≤ cap := by
  obtain ⟨b, cap, _, _, _, e, h1, _⟩ := h.ex
  exact ⟨b, cap, e, h1⟩
instance Rd.ofRB {v : Value} {l : List UInt8} [h : RB v l F] [k : FIn F Hs] : Rd encB 1 K Hs v l := ⟨by
  obtain ⟨b, cap, e, zs, fr, rfl, h1, rfl⟩ := h.ex
  refine ⟨_, cap, rfl, h1, fun _ _ => rfl, fun w hs => ⟨rfl, fun _ _ => rfl, fun _ => ⟨b, 0, rfl, ?_⟩⟩⟩
  have := hs.obj _ (k.sub _ (List.mem_singleton.2 rfl))
  rw [encB_map]; exact at_of_row this⟩
theorem R.cstrBytes {l : List UInt8} {e : TypeId} (hs : Sat K w Hs) (hx : look g x = some (str l)) (hu : P.underlying t = some .string) (hu2 : P.underlying t' = some (.slice e)) (he : P.underlying e = some (.int .u8)) (hd : Nat.blt d n.sz = true)
    (cont : ∀ v w' F, RB v l F → Sat K w' (F :: Hs) → R P ops Q rest n ((d, v) :: g) w') :
    R P ops Q (⟨some d, .convert t t' x, ty, pos, af, none⟩ :: rest) n g w := by
  refine R.strBytes hx hu hu2 he hd fun b cap zs fr w' h1 h2 h3 h4 hm => cont _ w' [(b, .cells (l.map ub ++ zs).toArray e fr)] ⟨⟨b, cap, e, zs, fr, rfl, h4, rfl⟩⟩ ?_
  refine hs.nil.upd (hm.mono (by simp)) (by simp) (fun p hp => ?_) (fun p hp => ?_)
  · simp at hp; subst hp; exact h1
  · simp at hp; subst hp; exact .inr h3
end ops
end Go.Eng
