/-
  maps.Clone and maps.Equal over any encodings: the operations (over any program).
-/
import Derived.Test.YtobhhnfckhbeeaaMapOps
import Derived.MapKept
namespace Go.Eng
open Go.RowKit
section
variable {P : Program} {Q : Post} {n : Nn} {g : Env} {w : World} {dst : Option Nat} {ty : TypeId} {pos : String} {af : Array Edge} {gu : Option (Nat × Bool)} {t t' xT : TypeId} {x y : Operand} {v : Value}
variable {ops : Array Oper} {rest : List Oper} {d : Nat} {K : Kn} {Hs : List Hl}
theorem E.mkIface {k e : TypeId} (hx : look g x = some v) (hu : P.underlying t = some (.map k e)) : Ev P n g ⟨dst, .makeInterface t x, ty, pos, af, gu⟩ w (.iface t v) := fun a f => by
  simp [execOp, f.eval hx, Instr.makeInterface, run_underlying hu]
theorem E.assertM {k e : TypeId} (hx : look g x = some (.iface t v)) (hu : P.underlying t = some (.map k e)) : Ev P n g ⟨dst, .typeAssert x xT t false, ty, pos, af, gu⟩ w v := fun a f => by
  have h1 : (Instr.typeAssert (.iface t v) xT t false).run P w = .ok v w := by simp [Instr.typeAssert, run_underlying hu, go_sem, Result.andThen]
  simp [execOp, f.eval hx, h1]
theorem run_mapClone {r : Nat} {es : Array MapEntry} {clock : Nat} (t : TypeId) (hb : w.heap[r]? = some (.map es clock)) :
    (Extern.MapsClone.clone #[.iface t (.map (some r))]).run P w = .ok (.iface t (.map (some w.heap.size))) (w.alloc (.map es clock)) := by
  have e : Extern.MapsClone.clone #[.iface t (.map (some r))] = (getObj r >>= fun o => match o with
      | .map entries clock => (newObj (.map entries clock) >>= fun n => pure (.iface t (.map (some n))))
      | _ => stuck "maps.clone: a map expected") := rfl
  rw [e]
  simp [MapKept.run_getObj_map hb, Result.andThen, go_sem]
/-- maps.clone: a new block with the same entries -/
theorem R.mclone {fid : FuncId} {r : Nat} {es : Array MapEntry} {clock : Nat} {tys : Array TypeId} {args : List Operand} (hf : InPlace P fid Extern.MapsClone.clone) (hx : lookAll g args = some [.iface t (.map (some r))]) (hs : Sat K w Hs) [i : InH r (.map es clock) Hs] (hd : Nat.blt d n.sz = true)
    (k : ∀ b w', Sat K w' ([(b, .map es clock)] :: Hs) → R P ops Q rest n ((d, .iface t (.map (some b))) :: g) w') :
    R P ops Q (⟨some d, .call ⟨.value (.func fid), args.toArray, tys⟩, ty, pos, af, none⟩ :: rest) n g w := by
  have hb : w.heap[r]? = some (.map es clock) := hs.objIn
  have hsat : Sat K (w.alloc (.map es clock)) ([(w.heap.size, .map es clock)] :: Hs) := by
    refine hs.nil.upd ⟨rfl, rfl, rfl, by simp, fun i hi _ => Below.heap_alloc w _ i hi⟩ (by simp) (fun p hp => ?_) (fun p hp => ?_)
    · simp at hp; subst hp; exact heap_alloc_new w _
    · simp at hp; subst hp; exact .inr (Nat.le_refl _)
  refine R.ac (w' := w.alloc (.map es clock)) (v := .iface t (.map (some w.heap.size))) hd (fun a f => ?_) (k _ _ hsat)
  obtain ⟨fn, h1, h2, h3, h4, h5⟩ := hf
  have h6 := run_callFunc_extern (P := P) h1 h2 h3 h4 h5 #[.iface t (.map (some r))] w
  have h7 := run_mapClone (P := P) t hb
  simp [execOp, resolve, Act.eval, Deferred.ofValue, invoke, f.evalAll hx, h6, h7]
end
end Go.Eng
