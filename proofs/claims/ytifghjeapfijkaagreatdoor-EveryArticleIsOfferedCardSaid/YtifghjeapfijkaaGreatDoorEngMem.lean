/-
  Strings, addresses, loads, stores, new blocks (over any program).
-/
import Derived.Test.YtifghjeapfijkaaGreatDoorEngOps
namespace Go.Eng
open Go.RowKit

/-- block b is a row of cells l, nothing of it frozen -/
def Blk (w : World) (b : Nat) (t : TypeId) (l : List Value) : Prop := w.heap[b]? = some (.cells l.toArray t (0, 0))
/-- from off on block b holds the cells cs -/
def At (w : World) (b off : Nat) (cs : List Value) : Prop := ∀ i v, cs[i]? = some v → w.cell? ⟨b, off + i, none⟩ = some v

/-- w' is w but for the blocks of S and new ones -/
structure Mod (S : List Nat) (w w' : World) : Prop where
  os : w'.os = w.os
  tape : w'.tape = w.tape
  output : w'.output = w.output
  size : w.heap.size ≤ w'.heap.size
  block : ∀ k, k < w.heap.size → k ∉ S → w'.heap[k]? = w.heap[k]?

theorem Mod.refl (S : List Nat) (w : World) : Mod S w w := ⟨rfl, rfl, rfl, Nat.le_refl _, fun _ _ _ => rfl⟩
theorem Mod.trans {S T U : List Nat} {a b c : World} (h : Mod S a b) (k : Mod T b c) (hS : ∀ x ∈ S, x ∈ U ∨ a.heap.size ≤ x) (hT : ∀ x ∈ T, x ∈ U ∨ a.heap.size ≤ x) : Mod U a c :=
  ⟨k.os.trans h.os, k.tape.trans h.tape, k.output.trans h.output, Nat.le_trans h.size k.size, fun i hi hn => by
    have h1 : i ∉ S := fun hm => by rcases hS i hm with h' | h' <;> first | exact hn h' | omega
    have h2 : i ∉ T := fun hm => by rcases hT i hm with h' | h' <;> first | exact hn h' | omega
    rw [k.block i (Nat.lt_of_lt_of_le hi h.size) h2, h.block i hi h1]⟩
theorem Mod.tr {S : List Nat} {a b c : World} (h : Mod S a b) (k : Mod S b c) : Mod S a c := h.trans k (fun _ h => .inl h) (fun _ h => .inl h)
/-- behind it blocks alone that are new since a are written -/
theorem Mod.tr' {S T : List Nat} {a b c : World} (h : Mod S a b) (k : Mod T b c) (hT : ∀ x ∈ T, a.heap.size ≤ x) : Mod S a c := h.trans k (fun _ h => .inl h) (fun x h => .inr (hT x h))
theorem Mod.mono {S T : List Nat} {a b : World} (h : Mod S a b) (hs : ∀ x ∈ S, x ∈ T) : Mod T a b := ⟨h.os, h.tape, h.output, h.size, fun i hi hn => h.block i hi (fun hm => hn (hs i hm))⟩
theorem Mod.below {a b : World} (h : Mod [] a b) : Below a.heap.size a b := ⟨h.os, h.tape, h.output, h.size, fun k hk => h.block k hk (by simp)⟩
theorem Below.mod {a b : World} (h : Below a.heap.size a b) : Mod [] a b := ⟨h.os, h.tape, h.output, h.size, fun k hk _ => h.block k hk⟩
theorem Mod.drew (S : List Nat) (w : World) : Mod S w w.drew := ⟨rfl, rfl, rfl, Nat.le_refl _, fun _ _ _ => rfl⟩

theorem blk_lt {w : World} {b : Nat} {o : Obj} (h : w.heap[b]? = some o) : b < w.heap.size := by
  rcases Nat.lt_or_ge b w.heap.size with h' | h'
  · exact h'
  · rw [Array.getElem?_eq_none h'] at h; cases h
theorem Blk.lt {w : World} {b : Nat} {t : TypeId} {l : List Value} (h : Blk w b t l) : b < w.heap.size := blk_lt h
theorem Mod.obj {S : List Nat} {w w' : World} (m : Mod S w w') {b : Nat} {o : Obj} (h : w.heap[b]? = some o) (hb : b ∉ S) : w'.heap[b]? = some o := by
  rw [m.block b (blk_lt h) hb]; exact h
theorem Blk.keep {S : List Nat} {w w' : World} {b : Nat} {t : TypeId} {l : List Value} (h : Blk w b t l) (m : Mod S w w') (hb : b ∉ S) : Blk w' b t l := m.obj h hb
theorem Mod.cell {S : List Nat} {w w' : World} (m : Mod S w w') {a : Addr} {v : Value} (h : w.cell? a = some v) (hb : a.block ∉ S) : w'.cell? a = some v := by
  have := m.block a.block (World.block_lt_of_cell? w a h) hb
  rw [World.cell?_of_block this]; exact h
theorem At.keep {S : List Nat} {w w' : World} {b off : Nat} {cs : List Value} (h : At w b off cs) (m : Mod S w w') (hb : b ∉ S) : At w' b off cs :=
  fun i v hv => m.cell (h i v hv) hb
theorem Blk.cell {w : World} {b : Nat} {t : TypeId} {l : List Value} (h : Blk w b t l) (i : Nat) : w.cell? ⟨b, i, none⟩ = l[i]? := by
  have := cell_of_row w b i l.toArray t (0, 0) h
  simpa using this
theorem Blk.at {w : World} {b : Nat} {t : TypeId} {l : List Value} (h : Blk w b t l) : At w b 0 l := fun i v hv => by
  rw [Nat.zero_add, h.cell]; exact hv
theorem At.sub {w : World} {b off : Nat} {cs : List Value} (h : At w b off cs) (k m : Nat) : At w b (off + k) ((cs.drop k).take m) := fun i v hv => by
  have : cs[k + i]? = some v := by
    rw [List.getElem?_take] at hv
    split at hv
    · simpa using hv
    · cases hv
  have := h _ _ this
  rw [← Nat.add_assoc] at this; exact this
theorem At.one {w : World} {b off : Nat} {cs : List Value} (h : At w b off cs) (k : Nat) (hk : k < cs.length) : w.cell? ⟨b, off + k, none⟩ = some cs[k] := h k _ (List.getElem?_eq_getElem hk)
theorem At.app {w : World} {b off : Nat} {c1 c2 : List Value} (h : At w b off (c1 ++ c2)) : At w b off c1 ∧ At w b (off + c1.length) c2 := by
  refine ⟨fun i v hv => h i v ?_, fun i v hv => ?_⟩
  · have hlt : i < c1.length := by
      rcases Nat.lt_or_ge i c1.length with h' | h'
      · exact h'
      · rw [List.getElem?_eq_none h'] at hv; cases hv
    rw [List.getElem?_append_left hlt]; exact hv
  · have := h (c1.length + i) v (by rw [List.getElem?_append_right (by omega)]; simpa using hv)
    rw [← Nat.add_assoc] at this; exact this

/-- a new block b -/
structure New (w w' : World) (b : Nat) (t : TypeId) (l : List Value) : Prop where
  ge : w.heap.size ≤ b
  blk : Blk w' b t l
  mod : Mod [] w w'
theorem New.ofAlloc (w : World) (t : TypeId) (l : List Value) : New w (w.alloc (.cells l.toArray t)) w.heap.size t l :=
  ⟨Nat.le_refl _, heap_alloc_new w _, ⟨rfl, rfl, rfl, by simp, fun k hk _ => Below.heap_alloc w _ k hk⟩⟩

theorem add_at (b off k : Nat) : (⟨b, off, none⟩ : Addr).add k = ⟨b, off + k, none⟩ := by unfold Addr.add; split <;> simp_all

def isAggD : TypeDesc → Bool
  | .struct _ | .array _ _ => true
  | _ => false
theorem run_isAgg {P : Program} {t : TypeId} {d : TypeDesc} (h : P.underlying t = some d) (w : World) : (isAgg t).run P w = .ok (isAggD d) w := by
  cases d <;> simp [isAgg, run_underlying h, isAggD]
def szOf (P : Program) (t : TypeId) : Option Nat := (P.info? t).map (·.size)
theorem run_szOf {P : Program} {t : TypeId} {m : Nat} (h : szOf P t = some m) (w : World) : (sizeOf t).run P w = .ok m w := by
  unfold szOf at h
  obtain ⟨i, hi, hs⟩ := Option.map_eq_some_iff.1 h
  simp [sizeOf, typeInfo, hi, hs]

section ops
variable {P : Program} {Q : Post} {n : Nn} {g : Env} {w : World} {dst : Option Nat} {ty : TypeId} {pos : String} {af : Array Edge} {gu : Option (Nat × Bool)} {ops : Array Oper} {rest : List Oper} {d : Nat}
variable {t t' : TypeId} {x y z : Operand}

theorem run_load_cell {v : Value} {ad : Addr} (h : w.cell? ad = some v) : (load ad).run P w = .ok v w := by simp [load, Sem.run, h]

theorem E.load1 {ad : Addr} {v : Value} {td : TypeDesc} (hx : look g x = some (.pointer (some ad))) (hu : P.underlying t = some td) (ht : isAggD td = false) (hc : w.cell? ad = some v) :
    Ev P n g ⟨dst, .load t x, ty, pos, af, gu⟩ w v := fun a f => by
  simp [execOp, f.eval hx, Instr.loadAt, Instr.sureAddr, loadVar, run_isAgg hu, ht, load, Sem.run, hc]
theorem E.loadRow {b off m : Nat} {cs : List Value} {td : TypeDesc} (hx : look g x = some (.pointer (some ⟨b, off, none⟩))) (hu : P.underlying t = some td) (ht : isAggD td = true) (hs : szOf P t = some m) (hc : At w b off cs) (hl : cs.length = m) :
    Ev P n g ⟨dst, .load t x, ty, pos, af, gu⟩ w (.agg cs.toArray) := fun a f => by
  subst hl
  have := run_loadCells_list (P := P) w ⟨b, off, none⟩ cs (fun j v hj => by rw [add_at]; exact hc j v hj)
  simp [execOp, f.eval hx, Instr.loadAt, Instr.sureAddr, loadVar, run_isAgg hu, ht, run_szOf hs, this]

/-! new variables -/
theorem R.box {v : Value} {e : TypeId} (hx : look g x = some v) (hd : Nat.blt d n.sz = true) (k : ∀ b w', New w w' b e v.cells.toList → R P ops Q rest n ((d, .pointer (some ⟨b, 0, none⟩)) :: g) w') :
    R P ops Q (⟨some d, .box e x, ty, pos, af, none⟩ :: rest) n g w :=
  R.ac (w' := w.alloc (.cells v.cells e)) (v := .pointer (some ⟨w.heap.size, 0, none⟩)) hd (fun a f => by
    simp [execOp, f.eval hx, Instr.box, newVar, newRow, newObj]; rfl) (k _ _ (by simpa using New.ofAlloc w e v.cells.toList))
def zeroOf (P : Program) (t : TypeId) : Option Value := (P.info? t).bind (·.zero)
theorem run_zeroOf {v : Value} (h : zeroOf P t = some v) (w : World) : (zeroValue t).run P w = .ok v w := by
  unfold zeroOf at h
  obtain ⟨i, hi, hs⟩ := Option.bind_eq_some_iff.1 h
  simp [zeroValue, typeInfo, hi, hs]
theorem R.alloc {v : Value} {e : TypeId} (hz : zeroOf P e = some v) (hd : Nat.blt d n.sz = true) (k : ∀ b w', New w w' b e v.cells.toList → R P ops Q rest n ((d, .pointer (some ⟨b, 0, none⟩)) :: g) w') :
    R P ops Q (⟨some d, .alloc e, ty, pos, af, none⟩ :: rest) n g w :=
  R.ac (w' := w.alloc (.cells v.cells e)) (v := .pointer (some ⟨w.heap.size, 0, none⟩)) hd (fun a f => by
    simp [execOp, Instr.alloc, run_zeroOf hz, newVar, newRow, newObj]; rfl) (k _ _ (by simpa using New.ofAlloc w e v.cells.toList))

/-! stores into a block that is known whole -/
theorem mod_setRow {b : Nat} (l' : List Value) : Mod [b] w (w.setRow b l'.toArray) := by
  refine ⟨rfl, rfl, rfl, by simp, fun k hk hn => ?_⟩
  have : k ≠ b := by simpa using hn
  simp only [World.setRow, Array.getElem?_modify]
  rw [if_neg (by omega)]
theorem blk_setRow {b : Nat} {bt : TypeId} {l : List Value} (hb : Blk w b bt l) (l' : List Value) : Blk (w.setRow b l'.toArray) b bt l' := setRow_heap w b l.toArray _ bt _ hb
theorem R.store {b off : Nat} {v : Value} {bt : TypeId} {l : List Value} (hx : look g x = some (.pointer (some ⟨b, off, none⟩))) (hy : look g y = some v) {m : Nat} (hs : szOf P t = some m) (hm : v.cells.size = m) (hb : Blk w b bt l)
    (hfit : off + v.cells.size ≤ l.length) (h1 : ∀ u ∈ v.cells.toList, u.oneCell' = true)
    (k : ∀ w', Blk w' b bt (l.take off ++ v.cells.toList ++ l.drop (off + v.cells.size)) → Mod [b] w w' → w'.heap.size = w.heap.size → R P ops Q rest n g w') :
    R P ops Q (⟨none, .store t x y, ty, pos, af, none⟩ :: rest) n g w := by
  subst hm
  have hst := run_storeCells_at (P := P) b off bt v.cells.toList 0 l.toArray w hb (by simpa using hfit) h1
  simp at hst
  refine R.ac0 (w' := w.setRow b (l.take off ++ v.cells.toList ++ l.drop (off + v.cells.size)).toArray) (fun a f => ?_) (k _ (blk_setRow hb _) (mod_setRow _) (by simp))
  simp [execOp, f.eval hx, f.eval hy, Instr.storeAt, Instr.sureAddr, storeVar, run_szOf hs, hst]
/-- the whole variable -/
theorem R.storeAll {b : Nat} {bt : TypeId} {l cs : List Value} {m : Nat} (hx : look g x = some (.pointer (some ⟨b, 0, none⟩))) (hy : look g y = some (.agg cs.toArray)) (hs : szOf P t = some m) (hb : Blk w b bt l) (hl : l.length = m) (hc : cs.length = m) (h1 : ∀ u ∈ cs, u.oneCell' = true)
    (k : ∀ w', Blk w' b bt cs → Mod [b] w w' → w'.heap.size = w.heap.size → R P ops Q rest n g w') :
    R P ops Q (⟨none, .store t x y, ty, pos, af, none⟩ :: rest) n g w := by
  refine R.store hx hy hs (by simpa [Value.cells] using hc) hb (by simp [Value.cells, hl, hc]) (by simpa [Value.cells] using h1) ?_
  intro w' hb' hm hz
  refine k w' ?_ hm hz
  have : l.drop (0 + cs.length) = [] := List.drop_eq_nil_of_le (by omega)
  simp only [Value.cells, List.take_zero, List.nil_append, List.size_toArray, this, List.append_nil] at hb'
  exact hb'
theorem R.boxA {cs : List Value} {e : TypeId} (hx : look g x = some (.agg cs.toArray)) (hd : Nat.blt d n.sz = true) (k : ∀ b w', New w w' b e cs → R P ops Q rest n ((d, .pointer (some ⟨b, 0, none⟩)) :: g) w') :
    R P ops Q (⟨some d, .box e x, ty, pos, af, none⟩ :: rest) n g w := R.box hx hd (fun b w' h => k b w' h)
theorem R.allocA {zs : List Value} {e : TypeId} (hz : zeroOf P e = some (.agg zs.toArray)) (hd : Nat.blt d n.sz = true) (k : ∀ b w', New w w' b e zs → R P ops Q rest n ((d, .pointer (some ⟨b, 0, none⟩)) :: g) w') :
    R P ops Q (⟨some d, .alloc e, ty, pos, af, none⟩ :: rest) n g w := R.alloc hz hd (fun b w' h => k b w' h)
theorem R.box1 {v : Value} {e : TypeId} (hx : look g x = some v) (h1 : v.oneCell' = true) (hd : Nat.blt d n.sz = true) (k : ∀ b w', New w w' b e [v] → R P ops Q rest n ((d, .pointer (some ⟨b, 0, none⟩)) :: g) w') :
    R P ops Q (⟨some d, .box e x, ty, pos, af, none⟩ :: rest) n g w := by
  have hv : v.cells = #[v] := by cases v <;> first | rfl | simp [Value.oneCell'] at h1
  exact R.box hx hd (fun b w' h => k b w' (by rw [hv] at h; exact h))
theorem R.alloc1 {v : Value} {e : TypeId} (hz : zeroOf P e = some v) (h1 : v.oneCell' = true) (hd : Nat.blt d n.sz = true) (k : ∀ b w', New w w' b e [v] → R P ops Q rest n ((d, .pointer (some ⟨b, 0, none⟩)) :: g) w') :
    R P ops Q (⟨some d, .alloc e, ty, pos, af, none⟩ :: rest) n g w := by
  have hv : v.cells = #[v] := by cases v <;> first | rfl | simp [Value.oneCell'] at h1
  exact R.alloc hz hd (fun b w' h => k b w' (by rw [hv] at h; exact h))
theorem len_ub {a : List UInt8} {m : Nat} (h : a.length = m) : (a.map ub).length = m := by simpa using h
theorem ub_all (a : List UInt8) : ∀ u ∈ a.map ub, u.oneCell' = true := by
  intro u hu
  obtain ⟨x, _, rfl⟩ := List.mem_map.1 hu
  rfl
theorem set_splice (l : List Value) (off : Nat) (v : Value) (h : off < l.length) : l.take off ++ [v] ++ l.drop (off + 1) = l.set off v := by
  rw [List.set_eq_take_append_cons_drop, if_pos h]; simp
theorem R.store1 {b off : Nat} {v : Value} {bt : TypeId} {l : List Value} (hx : look g x = some (.pointer (some ⟨b, off, none⟩))) (hy : look g y = some v) (hs : szOf P t = some 1) (hb : Blk w b bt l)
    (hfit : off < l.length) (h1 : v.oneCell' = true)
    (k : ∀ w', Blk w' b bt (l.set off v) → Mod [b] w w' → w'.heap.size = w.heap.size → R P ops Q rest n g w') :
    R P ops Q (⟨none, .store t x y, ty, pos, af, none⟩ :: rest) n g w := by
  have hv : v.cells = #[v] := by cases v <;> first | rfl | simp [Value.oneCell'] at h1
  have hsp := set_splice l off v hfit
  refine R.store hx hy hs (by rw [hv]; rfl) hb (by rw [hv]; simp; omega) (by rw [hv]; simpa using h1) ?_
  intro w' hb' hm hsz
  refine k w' ?_ hm hsz
  rw [hv] at hb'
  rw [← hsp]; simpa using hb'

/-! addresses -/
theorem E.fieldAddr {b off i : Nat} {fs : Array Field} {fd : Field} {m : Nat} (hx : look g x = some (.pointer (some ⟨b, off, none⟩))) (hu : P.underlying t = some (.struct fs)) (hf : fs[i]? = some fd) (hs : szOf P fd.type = some (m + 1)) :
    Ev P n g ⟨dst, .fieldAddr t x i, ty, pos, af, gu⟩ w (.pointer (some ⟨b, off + fd.offset, none⟩)) := fun a f => by
  simp [execOp, f.eval hx, Instr.fieldAt, Instr.sureAddr, run_underlying hu, hf, fieldPlace, run_szOf hs, add_at]
theorem E.indexAddr {b off len cap i sz : Nat} {j : Int} {k : IntKind} {e : TypeId} (hx : look g x = some (.slice (some ⟨b, off, none⟩) len cap)) (hy : look g y = some (.int k j)) (hu : P.underlying t = some (.slice e)) (hs : szOf P e = some sz) (hj : j = (i : Int)) (hi : i < len) :
    Ev P n g ⟨dst, .indexAddr t x y, ty, pos, af, gu⟩ w (.pointer (some ⟨b, off + i * sz, none⟩)) := fun a f => by
  subst hj
  simp [execOp, f.eval hx, f.eval hy, Instr.indexAt, asIntOf, run_underlying hu, run_szOf hs, add_at]
  intro h3; omega
theorem E.indexAddrA {b off len i sz : Nat} {j : Int} {k : IntKind} {e : TypeId} (hx : look g x = some (.pointer (some ⟨b, off, none⟩))) (hy : look g y = some (.int k j)) (hu : P.underlying t = some (.array len e)) (hs : szOf P e = some sz) (hj : j = (i : Int)) (hi : i < len) :
    Ev P n g ⟨dst, .indexAddr t x y, ty, pos, af, gu⟩ w (.pointer (some ⟨b, off + i * sz, none⟩)) := fun a f => by
  subst hj
  simp [execOp, f.eval hx, f.eval hy, Instr.indexAt, Instr.sureAddr, asIntOf, run_underlying hu, run_szOf hs, add_at]
  intro h3; omega
theorem E.nilCheck {ad : Addr} (hx : look g x = some (.pointer (some ad))) : Ev P n g ⟨dst, .nilCheck x, ty, pos, af, gu⟩ w (.pointer (some ad)) := fun a f => by
  simp [execOp, f.eval hx]
theorem E.extract {i : Nat} {vs : List Value} {v : Value} (hx : look g x = some (.tuple vs.toArray)) (hv : vs[i]? = some v) : Ev P n g ⟨dst, .extract x i, ty, pos, af, gu⟩ w v := fun a f => by
  simp [execOp, f.eval hx, Instr.extract, hv]

/-! lengths, strings -/
theorem E.lenSl {ad : Option Addr} {len cap : Nat} {e : TypeId} (hx : look g x = some (.slice ad len cap)) (hu : P.underlying t = some (.slice e)) : Ev P n g ⟨dst, .call ⟨.builtin .len, #[x], #[t]⟩, ty, pos, af, gu⟩ w (.int .i64 len) := fun a f => by
  simp [execOp, resolve, invoke, builtin, f.eval hx, Builtin.len_, run_underlying hu, goInt]
theorem E.lenStr {l : List UInt8} (hx : look g x = some (str l)) (hu : P.underlying t = some .string) : Ev P n g ⟨dst, .call ⟨.builtin .len, #[x], #[t]⟩, ty, pos, af, gu⟩ w (.int .i64 l.length) := fun a f => by
  have : (⟨⟨l⟩⟩ : ByteArray).size = l.length := rfl
  simp [execOp, resolve, invoke, builtin, f.eval hx, Builtin.len_, run_underlying hu, goInt, this]
theorem E.sindex {l : List UInt8} {j : Int} {k : IntKind} {i : Nat} (hx : look g x = some (str l)) (hy : look g y = some (.int k j)) (hu : P.underlying t = some .string) (hj : j = (i : Int)) (hi : i < l.length) :
    Ev P n g ⟨dst, .index t x y, ty, pos, af, gu⟩ w (ub (l.getD i 0)) := fun a f => by
  subst hj
  have : (⟨⟨l⟩⟩ : ByteArray)[i]? = some l[i] := by
    rw [getElem?_pos _ _ (by simpa [ByteArray.size] using hi)]; rfl
  have h2 : l.getD i 0 = l[i] := by simp [hi]
  rw [h2]
  simp [execOp, f.eval hx, f.eval hy, Instr.index, asIntOf, run_underlying hu, this]
theorem E.seql {l m : List UInt8} (hx : look g x = some (str l)) (hy : look g y = some (str m)) : Ev P n g ⟨dst, .binOp .eql t x y t', ty, pos, af, gu⟩ w (.bool (decide (l = m))) := fun a f => by
  simp [execOp, f.eval hx, f.eval hy, eqGuard, binOp, Op.stringOp, ByteArray.toList_eq]
  rw [Bool.eq_iff_iff]; simp
theorem E.sneq {l m : List UInt8} (hx : look g x = some (str l)) (hy : look g y = some (str m)) : Ev P n g ⟨dst, .binOp .neq t x y t', ty, pos, af, gu⟩ w (.bool (decide (l ≠ m))) := fun a f => by
  simp [execOp, f.eval hx, f.eval hy, eqGuard, binOp, Op.stringOp, ByteArray.toList_eq]
  rw [Bool.eq_iff_iff]; simp
theorem E.slss {l m : List UInt8} (hx : look g x = some (str l)) (hy : look g y = some (str m)) : Ev P n g ⟨dst, .binOp .lss t x y t', ty, pos, af, gu⟩ w (.bool (Op.bytesLess l m)) := fun a f => by
  simp [execOp, f.eval hx, f.eval hy, eqGuard, binOp, Op.stringOp, ByteArray.toList_eq]
theorem E.sgtr {l m : List UInt8} (hx : look g x = some (str l)) (hy : look g y = some (str m)) : Ev P n g ⟨dst, .binOp .gtr t x y t', ty, pos, af, gu⟩ w (.bool (!(Op.bytesLess l m || l == m))) := fun a f => by
  simp [execOp, f.eval hx, f.eval hy, eqGuard, binOp, Op.stringOp, ByteArray.toList_eq]
theorem E.concat {l m : List UInt8} (hx : look g x = some (str l)) (hy : look g y = some (str m)) (hs : l.length + m.length ≤ 9223372036854775807) : Ev P n g ⟨dst, .binOp .add t x y t', ty, pos, af, gu⟩ w (str (l ++ m)) := fun a f => by
  have h1 : ¬ (((l.length : Nat) : Int) + ((m.length : Nat) : Int) > IntKind.i64.max) := by
    have : IntKind.i64.max = 9223372036854775807 := rfl
    omega
  have h2 : (⟨⟨l⟩⟩ : ByteArray) ++ ⟨⟨m⟩⟩ = ⟨⟨l ++ m⟩⟩ := by
    apply ByteArray.ext
    rw [ByteArray.data_append]
    simp
  have h3 : (⟨⟨l⟩⟩ : ByteArray).size = l.length := rfl
  have h4 : (⟨⟨m⟩⟩ : ByteArray).size = m.length := rfl
  simp [execOp, f.eval hx, f.eval hy, eqGuard, binOp, Op.stringOp, h3, h4, h2]
  omega
end ops
end Go.Eng
