/-
 Calls of function values, functions that the model has in place (bytes compared, a byte sought), []byte(s) (over any program).
-/
import Derived.Test.YtbkgibgomohdjaaGreatDoorEngEq
import Derived.Laws.Externs
namespace Go.Eng
open Go.RowKit

section ops
variable {P : Program} {Q : Post} {n : Nn} {g : Env} {w : World} {dst : Option Nat} {ty : TypeId} {pos : String} {af : Array Edge} {gu : Option (Nat × Bool)} {ops : Array Oper} {rest : List Oper} {d : Nat}
variable {t t' : TypeId} {x y z : Operand}

/-- a call of a function value -/
theorem R.callV {fid : FuncId} {args : List Operand} {vs first cap : List Value} {tys : Array TypeId} {F : Value → World → Prop}
   (hf : Callable P fid) (hx : look g x = some (.func (.func fid) first.toArray cap.toArray)) (ha : lookAll g args = some vs) (hd : Nat.blt d n.sz = true)
   (hc : Ret P fid (first ++ vs ++ cap).toArray w F) (k : ∀ v w', F v w' → R P ops Q rest n ((d, v) :: g) w') :
   R P ops Q (⟨some d, .call ⟨.value x, args.toArray, tys⟩, ty, pos, af, none⟩ :: rest) n g w := fun a f => by
 refine wpList_plain rfl fun K hK => ?_
 unfold Oper.wp
 obtain ⟨fn, c, hf, hb, hnm⟩ := hf
 have hnm' : ¬ fn.name = "runtime.NumGoroutine" := by simpa using hnm
 have : (execOp a.eval ⟨some d, .call ⟨.value x, args.toArray, tys⟩, ty, pos, af, none⟩).run P w = .ok (.enter fid (first ++ vs ++ cap).toArray) w := by
   simp [execOp, resolve, f.eval hx, Deferred.ofValue, invoke, callFunc, hf, hb, hnm', f.evalAll ha]
 rw [this, Oper.upon_enter]
 refine Calls.mono hc ?_
 rintro e w' ⟨v, rfl, hF⟩
 exact hK _ _ (k v w' hF _ (f.put hd v))

/-- a function that the model has in place -/
def InPlace (P : Program) (f : FuncId) (e : Array Value → Sem Value) : Prop :=
 ∃ fn, P.funcs[f]? = some fn ∧ (fn.name == "runtime.NumGoroutine") = false ∧ fn.body.isNone = true ∧ Extern.findNext fn = none ∧ Extern.find fn = some e
theorem E.ext {fid : FuncId} {args : List Operand} {vs : List Value} {tys : Array TypeId} {e : Array Value → Sem Value} {v : Value} (hf : InPlace P fid e) (ha : lookAll g args = some vs) (hr : (e vs.toArray).run P w = .ok v w) :
   Ev P n g ⟨dst, .call ⟨.value (.func fid), args.toArray, tys⟩, ty, pos, af, gu⟩ w v := fun a f => by
 obtain ⟨fn, h1, h2, h3, h4, h5⟩ := hf
 have := run_callFunc_extern (P := P) h1 h2 h3 h4 h5 vs.toArray w
 simp [execOp, resolve, Act.eval, Deferred.ofValue, invoke, f.evalAll ha, this, hr]

/-! bytes compared -/
def cmpL : List UInt8 → List UInt8 → Int
 | [], [] => 0
 | [], _ :: _ => -1
 | _ :: _, [] => 1
 | x :: a, y :: b => if x < y then -1 else if y < x then 1 else cmpL a b

theorem get_str (l : List UInt8) (i : Nat) : (⟨⟨l⟩⟩ : ByteArray)[i]! = l.getD i 0 := by
 by_cases h : i < l.length
 · rw [getElem!_pos _ _ (by simpa [ByteArray.size] using h)]
   simp [h]; rfl
 · rw [getElem!_neg _ _ (by simpa [ByteArray.size] using h)]
   simp [h]; rfl
def cmpF (a b : List UInt8) : Int :=
 match (List.range (min a.length b.length)).find? fun i => a.getD i 0 != b.getD i 0 with
 | some i => if a.getD i 0 < b.getD i 0 then -1 else 1
 | none => if a.length < b.length then -1 else if a.length > b.length then 1 else 0
theorem cmpF_eq : ∀ (a b : List UInt8), cmpF a b = cmpL a b
 | [], [] => rfl
 | [], _ :: _ => by simp [cmpF, cmpL]
 | _ :: _, [] => by simp [cmpF, cmpL]
 | x :: a, y :: b => by
   have ih := cmpF_eq a b
   unfold cmpL
   rw [← ih]
   have hr : List.range (min (x :: a).length (y :: b).length) = 0 :: (List.range (min a.length b.length)).map Nat.succ := by
     rw [show min (x :: a).length (y :: b).length = min a.length b.length + 1 by simp, List.range_succ_eq_map]
   unfold cmpF
   rw [hr]
   by_cases hxy : x = y
   · subst hxy
     have h1 : ¬ x < x := UInt8.lt_irrefl x
     rw [if_neg h1, if_neg h1, List.find?_cons_of_neg (by simp), List.find?_map]
     have : ((fun i => (x :: a).getD i 0 != (x :: b).getD i 0) ∘ Nat.succ) = fun i => a.getD i 0 != b.getD i 0 := by funext i; simp
     rw [this]
     cases (List.range (min a.length b.length)).find? fun i => a.getD i 0 != b.getD i 0 with
     | none => simp
     | some i => simp
   · rw [List.find?_cons_of_pos (by simpa using hxy)]
     simp only [List.getD_cons_zero]
     by_cases hlt : x < y
     · simp [hlt]
     · have : y < x := by
         rw [UInt8.lt_iff_toNat_lt] at hlt ⊢
         have : x.toNat ≠ y.toNat := fun h => hxy (UInt8.toNat_inj.1 h)
         omega
       simp [hlt, this]
theorem cmp_str (a b : List UInt8) : Extern.BytealgCompare.cmp ⟨⟨a⟩⟩ ⟨⟨b⟩⟩ = cmpL a b := by
 rw [← cmpF_eq]
 unfold Extern.BytealgCompare.cmp cmpF
 have h1 : ∀ l : List UInt8, (⟨⟨l⟩⟩ : ByteArray).size = l.length := fun _ => rfl
 simp only [h1, get_str]
 rfl
theorem run_loadBytes (b : Nat) : ∀ (l : List UInt8) (off : Nat) (acc : List UInt8), At w b off (l.map ub) → (Extern.Bytes.loadBytes ⟨b, off, none⟩ l.length ⟨⟨acc⟩⟩).run P w = .ok ⟨⟨acc ++ l⟩⟩ w
 | [], off, acc, _ => by simp [Extern.Bytes.loadBytes]
 | c :: l, off, acc, h => by
   have h0 := h 0 (ub c) (by simp)
   simp only [Nat.add_zero] at h0
   have ih := run_loadBytes b l (off + 1) (acc ++ [c]) (fun i v hv => by
     have := h (i + 1) v (by simpa using hv)
     rw [show off + 1 + i = off + (i + 1) by omega]; exact this)
   have hp : (⟨⟨acc⟩⟩ : ByteArray).push c = ⟨⟨acc ++ [c]⟩⟩ := by
     apply ByteArray.ext; simp [ByteArray.push]
   simp [Extern.Bytes.loadBytes, load, Sem.run, h0, add_at, hp, ih]
theorem run_bytesOf {b off cap : Nat} {l : List UInt8} (h : At w b off (l.map ub)) : (Extern.Bytes.bytesOf (.slice (some ⟨b, off, none⟩) l.length cap)).run P w = .ok ⟨⟨l⟩⟩ w := by
 have := run_loadBytes (P := P) (w := w) b l off [] h
 exact this
theorem run_compare {b off cap b' off' cap' : Nat} {l m : List UInt8} (h : At w b off (l.map ub)) (h' : At w b' off' (m.map ub)) :
   (Extern.BytealgCompare.compare #[.slice (some ⟨b, off, none⟩) l.length cap, .slice (some ⟨b', off', none⟩) m.length cap']).run P w = .ok (.int .i64 (cmpL l m)) w := by
 show Sem.run P (do pure (goInt (Extern.BytealgCompare.cmp (← Extern.Bytes.bytesOf (.slice (some ⟨b, off, none⟩) l.length cap)) (← Extern.Bytes.bytesOf (.slice (some ⟨b', off', none⟩) m.length cap'))))) w = _
 simp [run_bytesOf h, run_bytesOf h', cmp_str, goInt]

/-! []byte(s): a new row, its cells not frozen -/
/-! a byte sought in a string -/
end ops
end Go.Eng
