/-
  Calls of function values, functions that the model has in place (bytes compared, a byte sought), []byte(s) (over any program).
-/
import Derived.Test.YtifghjeapfijkaaGreatDoorEngEq
import Derived.Laws.Externs
namespace Go.Eng
open Go.RowKit

section ops
variable {P : Program} {Q : Post} {n : Nn} {g : Env} {w : World} {dst : Option Nat} {ty : TypeId} {pos : String} {af : Array Edge} {gu : Option (Nat × Bool)} {ops : Array Oper} {rest : List Oper} {d : Nat}
variable {t t' : TypeId} {x y z : Operand}

/-- a call of a function value -/
theorem R.callV {fid : FuncId} {args : List Operand} {vs first cap : List Value} {tys : Array TypeId} {F : Value → World → Prop}
    (hf : Callable P fid) (hx : look g x = some (.func (.func fid) first.toArray cap.toArray)) (ha : lookAll g args = some vs) (hd : Nat.blt d n.sz = true)
    (hc : Ret P fid (first ++ vs ++ cap).toArray w F) (k : ∀ v w', F v w' → R P ops Q rest n ((d, v) :: g) w') :
    R P ops Q (⟨some d, .call ⟨.value x, args.toArray, tys⟩, ty, pos, af, none⟩ :: rest) n g w := fun a f => by
  refine wpList_plain rfl fun K hK => ?_
  unfold Oper.wp
  obtain ⟨fn, c, hf, hb, hnm⟩ := hf
  have hnm' : ¬ fn.name = "runtime.NumGoroutine" := by simpa using hnm
  have : (execOp a.eval ⟨some d, .call ⟨.value x, args.toArray, tys⟩, ty, pos, af, none⟩).run P w = .ok (.enter fid (first ++ vs ++ cap).toArray) w := by
    simp [execOp, resolve, f.eval hx, Deferred.ofValue, invoke, callFunc, hf, hb, hnm', f.evalAll ha]
  rw [this, Oper.upon_enter]
  refine Calls.mono hc ?_
  rintro e w' ⟨v, rfl, hF⟩
  exact hK _ _ (k v w' hF _ (f.put hd v))

/-- a function that the model has in place -/
def InPlace (P : Program) (f : FuncId) (e : Array Value → Sem Value) : Prop :=
  ∃ fn, P.funcs[f]? = some fn ∧ (fn.name == "runtime.NumGoroutine") = false ∧ fn.body.isNone = true ∧ Extern.findNext fn = none ∧ Extern.find fn = some e
theorem E.ext {fid : FuncId} {args : List Operand} {vs : List Value} {tys : Array TypeId} {e : Array Value → Sem Value} {v : Value} (hf : InPlace P fid e) (ha : lookAll g args = some vs) (hr : (e vs.toArray).run P w = .ok v w) :
    Ev P n g ⟨dst, .call ⟨.value (.func fid), args.toArray, tys⟩, ty, pos, af, gu⟩ w v := fun a f => by
  obtain ⟨fn, h1, h2, h3, h4, h5⟩ := hf
  have := run_callFunc_extern (P := P) h1 h2 h3 h4 h5 vs.toArray w
  simp [execOp, resolve, Act.eval, Deferred.ofValue, invoke, f.evalAll ha, this, hr]

/-! bytes compared -/
def cmpL : List UInt8 → List UInt8 → Int
  | [], [] => 0
  | [], _ :: _ => -1
  | _ :: _, [] => 1
  | x :: a, y :: b => if x < y then -1 else if y < x then 1 else cmpL a b

theorem get_str (l : List UInt8) (i : Nat) : (⟨⟨l⟩⟩ : ByteArray)[i]! = l.getD i 0 := by
  by_cases h : i < l.length
  · rw [getElem!_pos _ _ (by simpa [ByteArray.size] using h)]
    simp [h]; rfl
  · rw [getElem!_neg _ _ (by simpa [ByteArray.size] using h)]
    simp [h]; rfl
def cmpF (a b : List UInt8) : Int :=
  match (List.range (min a.length b.length)).find? fun i => a.getD i 0 != b.getD i 0 with
  | some i => if a.getD i 0 < b.getD i 0 then -1 else 1
  | none => if a.length < b.length then -1 else if a.length > b.length then 1 else 0
theorem cmpF_eq : ∀ (a b : List UInt8), cmpF a b = cmpL a b
  | [], [] => rfl
  | [], _ :: _ => by simp [cmpF, cmpL]
  | _ :: _, [] => by simp [cmpF, cmpL]
  | x :: a, y :: b => by
    have ih := cmpF_eq a b
    unfold cmpL
    rw [← ih]
    have hr : List.range (min (x :: a).length (y :: b).length) = 0 :: (List.range (min a.length b.length)).map Nat.succ := by
      rw [show min (x :: a).length (y :: b).length = min a.length b.length + 1 by simp, List.range_succ_eq_map]
    unfold cmpF
    rw [hr]
    by_cases hxy : x = y
    · subst hxy
      have h1 : ¬ x < x := UInt8.lt_irrefl x
      rw [if_neg h1, if_neg h1, List.find?_cons_of_neg (by simp), List.find?_map]
      have : ((fun i => (x :: a).getD i 0 != (x :: b).getD i 0) ∘ Nat.succ) = fun i => a.getD i 0 != b.getD i 0 := by funext i; simp
      rw [this]
      cases (List.range (min a.length b.length)).find? fun i => a.getD i 0 != b.getD i 0 with
      | none => simp
      | some i => simp
    · rw [List.find?_cons_of_pos (by simpa using hxy)]
      simp only [List.getD_cons_zero]
      by_cases hlt : x < y
      · simp [hlt]
      · have : y < x := by
          rw [UInt8.lt_iff_toNat_lt] at hlt ⊢
          have : x.toNat ≠ y.toNat := fun h => hxy (UInt8.toNat_inj.1 h)
          omega
        simp [hlt, this]
theorem cmp_str (a b : List UInt8) : Extern.BytealgCompare.cmp ⟨⟨a⟩⟩ ⟨⟨b⟩⟩ = cmpL a b := by
  rw [← cmpF_eq]
  unfold Extern.BytealgCompare.cmp cmpF
  have h1 : ∀ l : List UInt8, (⟨⟨l⟩⟩ : ByteArray).size = l.length := fun _ => rfl
  simp only [h1, get_str]
  rfl
theorem run_loadBytes (b : Nat) : ∀ (l : List UInt8) (off : Nat) (acc : List UInt8), At w b off (l.map ub) → (Extern.Bytes.loadBytes ⟨b, off, none⟩ l.length ⟨⟨acc⟩⟩).run P w = .ok ⟨⟨acc ++ l⟩⟩ w
  | [], off, acc, _ => by simp [Extern.Bytes.loadBytes]
  | c :: l, off, acc, h => by
    have h0 := h 0 (ub c) (by simp)
    simp only [Nat.add_zero] at h0
    have ih := run_loadBytes b l (off + 1) (acc ++ [c]) (fun i v hv => by
      have := h (i + 1) v (by simpa using hv)
      rw [show off + 1 + i = off + (i + 1) by omega]; exact this)
    have hp : (⟨⟨acc⟩⟩ : ByteArray).push c = ⟨⟨acc ++ [c]⟩⟩ := by
      apply ByteArray.ext; simp [ByteArray.push]
    simp [Extern.Bytes.loadBytes, load, Sem.run, h0, add_at, hp, ih]
theorem run_bytesOf {b off cap : Nat} {l : List UInt8} (h : At w b off (l.map ub)) : (Extern.Bytes.bytesOf (.slice (some ⟨b, off, none⟩) l.length cap)).run P w = .ok ⟨⟨l⟩⟩ w := by
  have := run_loadBytes (P := P) (w := w) b l off [] h
  exact this
theorem run_compare {b off cap b' off' cap' : Nat} {l m : List UInt8} (h : At w b off (l.map ub)) (h' : At w b' off' (m.map ub)) :
    (Extern.BytealgCompare.compare #[.slice (some ⟨b, off, none⟩) l.length cap, .slice (some ⟨b', off', none⟩) m.length cap']).run P w = .ok (.int .i64 (cmpL l m)) w := by
  show Sem.run P (do pure (goInt (Extern.BytealgCompare.cmp (← Extern.Bytes.bytesOf (.slice (some ⟨b, off, none⟩) l.length cap)) (← Extern.Bytes.bytesOf (.slice (some ⟨b', off', none⟩) m.length cap'))))) w = _
  simp [run_bytesOf h, run_bytesOf h', cmp_str, goInt]

/-! []byte(s): a new row, its cells not frozen -/
theorem R.strBytes {l : List UInt8} {e : TypeId} (hx : look g x = some (str l)) (hu : P.underlying t = some .string) (hu2 : P.underlying t' = some (.slice e)) (he : P.underlying e = some (.int .u8)) (hd : Nat.blt d n.sz = true)
    (cont : ∀ b cap zs fr w', w'.heap[b]? = some (.cells (l.map ub ++ zs).toArray e fr) → (l.map ub ++ zs).length ≤ fr.1 → w.heap.size ≤ b → l.length ≤ cap → Mod [] w w' → R P ops Q rest n ((d, .slice (some ⟨b, 0, none⟩) l.length cap) :: g) w') :
    R P ops Q (⟨some d, .convert t t' x, ty, pos, af, none⟩ :: rest) n g w := by
  have hsz : (⟨⟨l⟩⟩ : ByteArray).size = l.length := rfl
  let cap := grownCap w l.length 0 e
  let zs : List Value := List.replicate (cap - l.length) (.int .u8 0)
  let w1 := w.drew.alloc (.cells (l.map ub ++ zs).toArray e)
  have hfs : w1.shape? w.heap.size = some (e, (l.map ub ++ zs).length) := by
    have : w1.heap[w.heap.size]? = some (.cells (l.map ub ++ zs).toArray e) := heap_alloc_new w.drew _
    simp [World.shape?, this]
  have hge : l.length ≤ cap := grownCap_ge w l.length 0 e
  have hh : w1.heap[w.heap.size]? = some (.cells (l.map ub ++ zs).toArray e) := heap_alloc_new w.drew _
  let w2 := w1.freeze ⟨w.heap.size, (l.map ub ++ zs).length, none⟩ 1
  have hw2 : w2.heap[w.heap.size]? = some (.cells (l.map ub ++ zs).toArray e ((l.map ub ++ zs).length, (l.map ub ++ zs).length + 1)) := by
    simp only [w2, World.freeze]
    rw [if_neg (by decide)]
    simp only [Array.getElem?_modify, if_true, hh]
    simp
  have hm : Mod [] w w2 := by
    refine ⟨rfl, rfl, rfl, ?_, ?_⟩
    · simp only [w2, World.freeze]
      rw [if_neg (by decide)]
      simp [w1]
    · intro k hk _
      simp only [w2, World.freeze]
      rw [if_neg (by decide)]
      simp only [Array.getElem?_modify]
      rw [if_neg (by omega)]
      exact Below.heap_alloc w.drew _ k hk
  refine R.ac (w' := w2) (v := .slice (some ⟨w.heap.size, 0, none⟩) l.length cap) hd (fun a f => ?_) (cont w.heap.size cap zs _ w2 hw2 (Nat.le_refl _) (Nat.le_refl _) hge hm)
  have hcells : (⟨⟨l⟩⟩ : ByteArray).data.map (fun b => Value.int .u8 b.toNat) ++ Array.replicate (cap - l.length) (.int .u8 0) = (l.map ub ++ zs).toArray := by
    simp [zs]
  have hch : (choose (.appendCap l.length 0 e)).run P w = .ok cap w.drew := by
    show (if (Question.appendCap l.length 0 e).forced then _ else _) = _
    rw [if_neg (by simp [Question.forced])]
    rfl
  have hrow : (newRow e (l.map ub ++ zs).toArray).run P w.drew = .ok ⟨w.heap.size, 0, none⟩ w1 := by
    simp [newRow, newObj]; rfl
  have hmk : (markStringish ⟨w.heap.size, 0, none⟩).run P w1 = .ok () w2 := by
    simp [markStringish, shape, Sem.run, hfs, freeze, w2]
  simp only [execOp, f.eval hx, convert, Sem.run_bind, run_underlying hu, run_underlying hu2, run_underlying he, Result.andThen_ok, Conv.stringToBytes, hsz, hch, hcells, hrow, hmk, Sem.run_pure]

theorem at_of_row {b : Nat} {l zs : List Value} {e : TypeId} {fr : Nat × Nat} (h : w.heap[b]? = some (.cells (l ++ zs).toArray e fr)) : At w b 0 l := fun i v hv => by
  have := cell_of_row w b i (l ++ zs).toArray e fr h
  rw [Nat.zero_add, this]
  simp
  rw [List.getElem?_append_left]
  · exact hv
  · rcases Nat.lt_or_ge i l.length with h' | h'
    · exact h'
    · rw [List.getElem?_eq_none h'] at hv; cases hv
/-- a store into such a row -/
theorem R.storeF {b off : Nat} {v : Value} {l : List Value} {e : TypeId} {fr : Nat × Nat} (hx : look g x = some (.pointer (some ⟨b, off, none⟩))) (hy : look g y = some v) (hs : szOf P t = some 1) (hb : w.heap[b]? = some (.cells l.toArray e fr)) (hfr : l.length ≤ fr.1)
    (hfit : off < l.length) (h1 : v.oneCell' = true)
    (k : ∀ w', w'.heap[b]? = some (.cells (l.set off v).toArray e fr) → Mod [b] w w' → R P ops Q rest n g w') :
    R P ops Q (⟨none, .store t x y, ty, pos, af, none⟩ :: rest) n g w := by
  have hv : v.cells = #[v] := by cases v <;> first | rfl | simp [Value.oneCell'] at h1
  have hcell : w.cell? ⟨b, off, none⟩ = some l[off] := by simp [World.cell?, hb, hfit]
  have hfro : w.frozen? ⟨b, off, none⟩ = false := by
    obtain ⟨lo, hi⟩ := fr
    simp only at hfr
    simp [World.frozen?, hb]; omega
  have h2 : (w.setCell ⟨b, off, none⟩ v).heap[b]? = some (.cells (l.set off v).toArray e fr) := by
    simp [World.setCell, Array.getElem?_modify, hb]
  refine R.ac0 (w' := w.setCell ⟨b, off, none⟩ v) (fun a f => ?_) (k _ h2 ?_)
  · have hst : (Go.store ((⟨b, off, none⟩ : Addr).add 0) v).run P w = .ok () (w.setCell ⟨b, off, none⟩ v) := by
      rw [add_at, run_store P w _ v _ h1]
      simp [hcell, hfro]
    simp [execOp, f.eval hx, f.eval hy, Instr.storeAt, Instr.sureAddr, storeVar, run_szOf hs, hv, storeCells, hst]
  · refine ⟨rfl, rfl, rfl, by simp [World.setCell], fun i hi hn => ?_⟩
    have : i ≠ b := by simpa using hn
    exact Below.heap_setCell _ _ _ _ this

/-! a byte sought in a string -/
def idxL (c : UInt8) : List UInt8 → Nat → Int
  | [], _ => -1
  | b :: l, k => if b = c then k else idxL c l (k + 1)
theorem find_idx (l : List UInt8) (c : UInt8) : ∀ (m k : Nat), k + m = l.length → (match (List.range' k m).find? fun i => l.getD i 0 == c with | some i => (i : Int) | none => -1) = idxL c (l.drop k) k := by
  intro m
  induction m with
  | zero => intro k h; simp at h; subst h; simp [idxL]
  | succ m ih =>
    intro k h
    have hk : k < l.length := by omega
    rw [List.drop_eq_getElem_cons hk, List.range'_succ]
    unfold idxL
    by_cases hc : l[k] = c
    · rw [List.find?_cons_of_pos (by simp [hk, hc])]; simp [hc]
    · rw [List.find?_cons_of_neg (by simp [hk, hc]), if_neg hc]
      exact ih (k + 1) (by omega)
theorem run_indexStr (l : List UInt8) (c : UInt8) : (Extern.BytealgIndexByte.indexByte #[str l, ub c]).run P w = .ok (.int .i64 (idxL c l 0)) w := by
  rw [run_indexByte_string]
  have h1 : (⟨⟨l⟩⟩ : ByteArray).size = l.length := rfl
  have h2 : ((c.toNat : Int).toNat.toUInt8) = c := by simp
  have := find_idx l c l.length 0 (by simp)
  simp only [List.drop_zero] at this
  rw [← this]
  unfold firstIdx
  simp only [h1, get_str, h2, List.range_eq_range']
  rfl
end ops
end Go.Eng
