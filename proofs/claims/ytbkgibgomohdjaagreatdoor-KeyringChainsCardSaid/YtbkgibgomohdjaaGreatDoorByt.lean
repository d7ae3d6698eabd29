/-
 Bytes in slices: copy, make, string(b), parts that are known for good (over any program).
-/
import Derived.Test.YtbkgibgomohdjaaGreatDoorMapOps
import Derived.Laws.MakeOwn
namespace Go.Eng
open Go.RowKit

def encB (b : UInt8) : List Value := [ub b]
instance : Enc encB 1 := ⟨fun _ => rfl, fun o u hu => by simp [encB] at hu; subst hu; rfl⟩
instance {o : UInt8} : CellOf (encB o) 0 (ub o) := ⟨rfl⟩
theorem encB_map (l : List UInt8) : l.flatMap encB = l.map ub := by
 induction l with
 | nil => rfl
 | cons a l ih => rw [List.flatMap_cons, ih]; rfl
section
variable {K K' : Kn} {w w' : World} {Hs Gs Rs : List Hl} {F X : Hl} {α : Type} {enc : α → List Value} {sz : Nat}
/-- bytes within a block of the call's own -/
theorem Rd.bytes {b off m c : Nat} {t : TypeId} {l c1 c3 : List Value} {M : List UInt8} [i : InH b (.cells l.toArray t (0, 0)) Hs] (e : l = c1 ++ (M.map ub ++ c3)) (ho : off = c1.length) (hm : M.length = m) (hc : m ≤ c) : Rd encB 1 K Hs (.slice (some ⟨b, off, none⟩) m c) M := ⟨some ⟨b, off, none⟩, c, by rw [hm], by omega, fun _ _ => rfl, fun w hs => ⟨rfl, fun _ _ => rfl, fun _ => ⟨b, off, rfl, by rw [encB_map]; exact hs.ldM (b := b) e ho⟩⟩⟩
end
section ops
variable {P : Program} {Q : Post} {n : Nn} {g : Env} {w : World} {dst : Option Nat} {ty : TypeId} {pos : String} {af : Array Edge} {gu : Option (Nat × Bool)} {ops : Array Oper} {rest : List Oper} {d : Nat}
variable {t t' : TypeId} {x y z : Operand} {K : Kn} {Hs Rs : List Hl} {F : Hl} {C : Hl → List Hl} {α : Type} {enc : α → List Value} {sz : Nat} {e : TypeId}
/-- copy(dst, src) of bytes into a block of the call's own -/
theorem R.ccopyB {b off m c m2 c2 : Nat} {ad : Option Addr} {bt : TypeId} {l : List Value} {M : List UInt8} (hs : Sat K w Hs) (hx : look g x = some (.slice (some ⟨b, off, none⟩) m c)) (hy : look g y = some (.slice ad m2 c2)) (hu : P.underlying t = some (.slice e)) (hz : szOf P e = some 1) (hd : Nat.blt d n.sz = true)
   [cx : CtxB b bt l Hs C Rs] [r : Rd encB 1 K Hs (.slice ad m2 c2) M] (hM : M ≠ []) (hfit : off + m ≤ l.length)
   (k : ∀ w', Sat K w' (C (row b bt (l.take off ++ (M.take m).map ub ++ l.drop (off + (M.take m).length)))) → R P ops Q rest n ((d, .int .i64 ((min M.length m : Nat) : Int)) :: g) w') :
   R P ops Q (⟨some d, .call ⟨.builtin .copy, #[x, y], #[t, t']⟩, ty, pos, af, none⟩ :: rest) n g w := by
 have cx := cx.ctx
 have hl := r.len
 obtain ⟨b2, off2, rfl, hat⟩ := (r.sl w hs).at_ hM
 rw [encB_map] at hat
 obtain ⟨ti, hti, hsz⟩ : ∃ ti, P.info? e = some ti ∧ ti.size = 1 := by
   unfold szOf at hz
   obtain ⟨ti, h1, h2⟩ := Option.map_eq_some_iff.1 hz
   exact ⟨ti, h1, h2⟩
 have hld := run_loadCells_list (P := P) w ⟨b2, off2, none⟩ ((M.take m).map ub) (fun j u hj => by
   rw [add_at]
   refine hat j u ?_
   rw [List.map_take, List.getElem?_take] at hj
   split at hj
   · exact hj
   · cases hj)
 have hlen : ((M.take m).map ub).length = Nat.min m2 m := by rw [List.length_map, List.length_take, hl.1]; exact Nat.min_comm m m2
 have hst := run_storeCells_at (P := P) b off bt ((M.take m).map ub) 0 l.toArray w (hs.front (F := row b bt l)).blk (by rw [hlen]; have : Nat.min m2 m ≤ m := Nat.min_le_right _ _; simp; omega) (ub_all _)
 simp only [Nat.add_zero] at hst
 rw [hlen] at hst hld
 refine R.ac (w' := w.setRow b (l.take off ++ (M.take m).map ub ++ l.drop (off + (M.take m).length)).toArray) (v := .int .i64 ((min M.length m : Nat) : Int)) hd (fun a f => ?_) (k _ (hs.back (F := row b bt l) ((hs.front (F := row b bt l)).put (blk_setRow (hs.front (F := row b bt l)).blk _) (mod_setRow _))))
 have hl2 : (M.take m).length = Nat.min m2 m := by rw [← hlen, List.length_map]
 have hmn : min M.length m = Nat.min m2 m := by rw [hl.1]
 rw [hl2, hmn]
 generalize (M.take m).map ub = cs at hst hld
 simp [execOp, resolve, invoke, builtin, f.eval hx, f.eval hy, Builtin.copy_, run_underlying hu, Builtin.lenOf, Builtin.firstCells, sizeOf, typeInfo, hti, hsz, hld, hst, goInt]
end ops
/-! numbers -/
end Go.Eng
