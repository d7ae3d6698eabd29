/-
  Slices, arrays by value, conversions, make, append, copy (over any program).
-/
import Derived.Test.YtifghjeapfijkaaGreatDoorEngDraw
import Derived.Deep.AppendLies
import Derived.Laws.BytesArg
namespace Go.Eng
open Go.RowKit

section ops
variable {P : Program} {Q : Post} {n : Nn} {g : Env} {w : World} {dst : Option Nat} {ty : TypeId} {pos : String} {af : Array Edge} {gu : Option (Nat × Bool)} {ops : Array Oper} {rest : List Oper} {d : Nat}
variable {t t' : TypeId} {x y z : Operand}

/-! slices of strings -/
theorem extract_str (l : List UInt8) (a b : Nat) : (⟨⟨l⟩⟩ : ByteArray).extract a b = ⟨⟨(l.drop a).take (b - a)⟩⟩ := by
  apply ByteArray.ext
  simp [ByteArray.data_extract, List.extract_eq_take_drop]
theorem E.ssliceLH {l : List UInt8} {i j : Int} {k k' : IntKind} {a b : Nat} (hx : look g x = some (str l)) (hy : look g y = some (.int k i)) (hz : look g z = some (.int k' j)) (hu : P.underlying t = some .string) (hi : i = (a : Int)) (hj : j = (b : Int)) (h1 : a ≤ b) (h2 : b ≤ l.length) :
    Ev P n g ⟨dst, .slice t x (some y) (some z) none, ty, pos, af, gu⟩ w (str ((l.drop a).take (b - a))) := fun s f => by
  subst hi hj
  have hs : (⟨⟨l⟩⟩ : ByteArray).size = l.length := rfl
  have h3 : ((b : Nat) : Int) ≤ ((l.length : Nat) : Int) := by omega
  simp [execOp, f.eval hx, f.eval hy, f.eval hz, Instr.sliceAt, Instr.slice, Instr.sliceBounds, Instr.sliceBound, asIntOf, run_underlying hu, hs, h1, h2, extract_str]
theorem E.ssliceL {l : List UInt8} {i : Int} {k : IntKind} {a : Nat} (hx : look g x = some (str l)) (hy : look g y = some (.int k i)) (hu : P.underlying t = some .string) (hi : i = (a : Int)) (h1 : a ≤ l.length) :
    Ev P n g ⟨dst, .slice t x (some y) none none, ty, pos, af, gu⟩ w (str (l.drop a)) := fun s f => by
  subst hi
  have hs : (⟨⟨l⟩⟩ : ByteArray).size = l.length := rfl
  have h3 : (l.drop a).take (l.length - a) = l.drop a := List.take_of_length_le (by simp)
  simp [execOp, f.eval hx, f.eval hy, Instr.sliceAt, Instr.slice, Instr.sliceBounds, Instr.sliceBound, asIntOf, run_underlying hu, hs, h1, extract_str, h3]
theorem E.ssliceH {l : List UInt8} {j : Int} {k : IntKind} {b : Nat} (hx : look g x = some (str l)) (hy : look g y = some (.int k j)) (hu : P.underlying t = some .string) (hj : j = (b : Int)) (h1 : b ≤ l.length) :
    Ev P n g ⟨dst, .slice t x none (some y) none, ty, pos, af, gu⟩ w (str (l.take b)) := fun s f => by
  subst hj
  have hs : (⟨⟨l⟩⟩ : ByteArray).size = l.length := rfl
  simp [execOp, f.eval hx, f.eval hy, Instr.sliceAt, Instr.slice, Instr.sliceBounds, Instr.sliceBound, asIntOf, run_underlying hu, hs, h1, extract_str]

/-! slices of slices: the address of an empty rest is kept, so what is known of the address is that of the cells -/
theorem E.sliceH {ad : Option Addr} {len cap : Nat} {j : Int} {k : IntKind} {b sz : Nat} {e : TypeId} (hx : look g x = some (.slice ad len cap)) (hy : look g y = some (.int k j)) (hu : P.underlying t = some (.slice e)) (hs : szOf P e = some sz) (hj : j = (b : Int)) (h1 : b ≤ cap) :
    Ev P n g ⟨dst, .slice t x none (some y) none, ty, pos, af, gu⟩ w (.slice ad b cap) := fun s f => by
  subst hj
  have h0 : ad.map (fun a => a.add 0) = ad := by cases ad <;> simp [Addr.add]
  simp [execOp, f.eval hx, f.eval hy, Instr.sliceAt, Instr.slice, Instr.sliceBounds, Instr.sliceBound, asIntOf, run_underlying hu, run_szOf hs, h1, h0]
theorem E.sliceLH {bk off len cap : Nat} {i j : Int} {k k' : IntKind} {a b sz : Nat} {e : TypeId} (hx : look g x = some (.slice (some ⟨bk, off, none⟩) len cap)) (hy : look g y = some (.int k i)) (hz : look g z = some (.int k' j)) (hu : P.underlying t = some (.slice e)) (hs : szOf P e = some sz) (hi : i = (a : Int)) (hj : j = (b : Int)) (h1 : a ≤ b) (h2 : b ≤ cap) :
    Ev P n g ⟨dst, .slice t x (some y) (some z) none, ty, pos, af, gu⟩ w (.slice (some (if cap = a then ⟨bk, off, none⟩ else ⟨bk, off + a * sz, none⟩)) (b - a) (cap - a)) := fun s f => by
  subst hi hj
  by_cases hc : cap = a <;>
    simp [execOp, f.eval hx, f.eval hy, f.eval hz, Instr.sliceAt, Instr.slice, Instr.sliceBounds, Instr.sliceBound, asIntOf, run_underlying hu, run_szOf hs, h1, h2, add_at, hc] <;> (try (intro hh; omega))
theorem E.sliceL {bk off len cap : Nat} {i : Int} {k : IntKind} {a sz : Nat} {e : TypeId} (hx : look g x = some (.slice (some ⟨bk, off, none⟩) len cap)) (hy : look g y = some (.int k i)) (hu : P.underlying t = some (.slice e)) (hs : szOf P e = some sz) (hi : i = (a : Int)) (h1 : a ≤ len) :
    Ev P n g ⟨dst, .slice t x (some y) none none, ty, pos, af, gu⟩ w (.slice (some (if cap = a then ⟨bk, off, none⟩ else ⟨bk, off + a * sz, none⟩)) (len - a) (cap - a)) := fun s f => by
  subst hi
  by_cases hc : cap = a <;>
    simp [execOp, f.eval hx, f.eval hy, Instr.sliceAt, Instr.slice, Instr.sliceBounds, Instr.sliceBound, asIntOf, run_underlying hu, run_szOf hs, h1, add_at, hc]
/-! an array's slice -/
theorem E.sliceA {bk off len sz : Nat} {e : TypeId} (hx : look g x = some (.pointer (some ⟨bk, off, none⟩))) (hu : P.underlying t = some (.array (len + 1) e)) (hs : szOf P e = some sz) :
    Ev P n g ⟨dst, .slice t x none none none, ty, pos, af, gu⟩ w (.slice (some ⟨bk, off, none⟩) (len + 1) (len + 1)) := fun s f => by
  simp [execOp, f.eval hx, Instr.sliceAt, Instr.sureAddr, Instr.sliceBounds, run_underlying hu, run_szOf hs, Addr.add]
theorem E.sliceAH {bk off len sz b : Nat} {j : Int} {k : IntKind} {e : TypeId} (hx : look g x = some (.pointer (some ⟨bk, off, none⟩))) (hy : look g y = some (.int k j)) (hu : P.underlying t = some (.array (len + 1) e)) (hs : szOf P e = some sz) (hj : j = (b : Int)) (h1 : b ≤ len + 1) :
    Ev P n g ⟨dst, .slice t x none (some y) none, ty, pos, af, gu⟩ w (.slice (some ⟨bk, off, none⟩) b (len + 1)) := fun s f => by
  subst hj
  simp [execOp, f.eval hx, f.eval hy, Instr.sliceAt, Instr.sureAddr, Instr.sliceBounds, Instr.sliceBound, asIntOf, run_underlying hu, run_szOf hs, Addr.add]
  intro hh; omega
theorem E.arrPtr {ad : Option Addr} {len cap m : Nat} {e : TypeId} (hx : look g x = some (.slice ad len cap)) (hu : P.underlying t = some (.array m e)) (h : m ≤ len) :
    Ev P n g ⟨dst, .sliceToArrayPointer t x, ty, pos, af, gu⟩ w (.pointer ad) := fun s f => by
  have : ¬ len < m := by omega
  simp [execOp, f.eval hx, Instr.arrayAt, run_underlying hu, this]
theorem E.lenArr {m : Nat} {e : TypeId} (hu : P.underlying t = some (.array m e)) {v : Value} (hx : look g x = some v) : Ev P n g ⟨dst, .call ⟨.builtin .len, #[x], #[t]⟩, ty, pos, af, gu⟩ w (.int .i64 m) := fun a f => by
  simp [execOp, resolve, invoke, builtin, f.eval hx, Builtin.len_, run_underlying hu, goInt]

/-! parts of values -/
theorem E.field1 {cs : List Value} {i : Nat} {fs : Array Field} {fd : Field} {td : TypeDesc} {v : Value} (hx : look g x = some (.agg cs.toArray)) (hu : P.underlying t = some (.struct fs)) (hf : fs[i]? = some fd) (hu2 : P.underlying fd.type = some td) (ht : isAggD td = false) (hv : cs[fd.offset]? = some v) :
    Ev P n g ⟨dst, .field t x i, ty, pos, af, gu⟩ w v := fun a f => by
  simp [execOp, f.eval hx, Instr.field, run_underlying hu, hf, asAgg, part, run_isAgg hu2, ht, hv]
theorem E.fieldRow {cs : List Value} {i : Nat} {fs : Array Field} {fd : Field} {td : TypeDesc} {m : Nat} (hx : look g x = some (.agg cs.toArray)) (hu : P.underlying t = some (.struct fs)) (hf : fs[i]? = some fd) (hu2 : P.underlying fd.type = some td) (ht : isAggD td = true) (hs : szOf P fd.type = some m) :
    Ev P n g ⟨dst, .field t x i, ty, pos, af, gu⟩ w (.agg ((cs.drop fd.offset).take m).toArray) := fun a f => by
  simp [execOp, f.eval hx, Instr.field, run_underlying hu, hf, asAgg, part, run_isAgg hu2, ht, run_szOf hs, List.extract_eq_take_drop]
theorem E.aindex1 {cs : List Value} {j : Int} {k : IntKind} {i m : Nat} {e : TypeId} {td : TypeDesc} {v : Value} (hx : look g x = some (.agg cs.toArray)) (hy : look g y = some (.int k j)) (hu : P.underlying t = some (.array m e)) (hu2 : P.underlying e = some td) (ht : isAggD td = false) (hs : szOf P e = some 1) (hj : j = (i : Int)) (hi : i < m) (hv : cs[i]? = some v) :
    Ev P n g ⟨dst, .index t x y, ty, pos, af, gu⟩ w v := fun a f => by
  subst hj
  have h2 : ((i : Nat) : Int) < (m : Int) := by omega
  simp [execOp, f.eval hx, f.eval hy, Instr.index, asIntOf, run_underlying hu, hi, part, run_isAgg hu2, ht, run_szOf hs, hv]

/-! numbers -/
theorem E.conv {k k' : IntKind} {i : Int} {td : TypeDesc} (hx : look g x = some (.int k i)) (hu : P.underlying t = some td) (hu2 : P.underlying t' = some (.int k')) : Ev P n g ⟨dst, .convert t t' x, ty, pos, af, gu⟩ w (.int k' (k'.wrap i)) := fun a f => by
  cases td <;> simp [execOp, f.eval hx, convert, run_underlying hu, run_underlying hu2, Conv.intToInt]
theorem E.min2 {k : IntKind} {i j : Int} (hx : look g x = some (.int k i)) (hy : look g y = some (.int k j)) {tys : Array TypeId} : Ev P n g ⟨dst, .call ⟨.builtin .min, #[x, y], tys⟩, ty, pos, af, gu⟩ w (.int k (min i j)) := fun a f => by
  have : (if j < i then j else i) = min i j := by rw [Int.min_def]; split <;> split <;> omega
  simp [execOp, resolve, invoke, builtin, f.eval hx, f.eval hy, Builtin.min_, Builtin.min2, this]
theorem E.max2 {k : IntKind} {i j : Int} (hx : look g x = some (.int k i)) (hy : look g y = some (.int k j)) {tys : Array TypeId} : Ev P n g ⟨dst, .call ⟨.builtin .max, #[x, y], tys⟩, ty, pos, af, gu⟩ w (.int k (max i j)) := fun a f => by
  have : (if i < j then j else i) = max i j := by rw [Int.max_def]; split <;> split <;> omega
  simp [execOp, resolve, invoke, builtin, f.eval hx, f.eval hy, Builtin.max_, Builtin.max2, this]

/-! bytes and strings -/
theorem E.bytesStr {bk off len cap : Nat} {l : List UInt8} {e : TypeId} (hx : look g x = some (.slice (some ⟨bk, off, none⟩) len cap)) (hu : P.underlying t = some (.slice e)) (he : P.underlying e = some (.int .u8)) (hu2 : P.underlying t' = some .string) (hl : l.length = len) (hc : At w bk off (l.map ub)) :
    Ev P n g ⟨dst, .convert t t' x, ty, pos, af, gu⟩ w (str l) := fun a f => by
  have := run_convert_bytes_arg (P := P) w t e hu he bk off len cap (l.map fun b => (b.toNat : Int)) (by simpa using hl) (fun i hi => by
    have hi' : i < l.length := by omega
    have := hc i (ub l[i]) (by simp [hi'])
    rw [this]; simp [ub, hi']) t' hu2
  have hs : strOfNums (l.map fun b => (b.toNat : Int)) = ⟨⟨l⟩⟩ := by
    apply ByteArray.ext
    apply Array.ext'
    rw [strOfNums_data]
    simp [Function.comp_def]
  simp [execOp, f.eval hx, this, hs]
theorem E.bytesStr0 {e : TypeId} {m c : Nat} (hx : look g x = some (.slice none m c)) (hu : P.underlying t = some (.slice e)) (he : P.underlying e = some (.int .u8)) (hu2 : P.underlying t' = some .string) :
    Ev P n g ⟨dst, .convert t t' x, ty, pos, af, gu⟩ w (str []) := fun a f => by
  have := run_convert_bytes_nil (P := P) w t e hu he m c t' hu2
  simp [execOp, f.eval hx, this]
  rfl

/-! closures -/
theorem E.makeFunc {fn : Fn} {first cap : List Operand} {vs us : List Value} (h1 : lookAll g first = some vs) (h2 : lookAll g cap = some us) : Ev P n g ⟨dst, .makeFunc fn first.toArray cap.toArray, ty, pos, af, gu⟩ w (.func fn vs.toArray us.toArray) := fun a f => by
  simp [execOp, Instr.makeFunc, f.evalAll h1, f.evalAll h2]

/-! rows that the call itself owns -/
theorem grown_mod {w w' : World} {v : Value} (h : w.grownBy w' v.ownBlock) : Mod v.ownBlock.toList w w' :=
  ⟨h.os, h.tape, h.output, h.size, fun k hk hn => h.block k hk (by
    intro he
    apply hn
    rw [← he]; simp)⟩
theorem Mod.own {S : List Nat} {w w' : World} {base : Nat} {e : TypeId} {sz : Nat} {v : Value} {k : Nat} {xs : List Value} (m : Mod S w w') (h : w.ownsRow base e sz v k xs) (hn : ∀ b, v.ownBlock = some b → b ∉ S) : w'.ownsRow base e sz v k xs := by
  refine ⟨h.1, ?_⟩
  rcases h.2 with h0 | ⟨gk, cap, cur, rfl, hb, hg, r⟩
  · exact .inl h0
  · refine .inr ⟨gk, cap, cur, rfl, hb, ?_, r⟩
    rw [m.block gk (blk_lt hg) (hn gk rfl)]
    exact hg
def byOf (P : Program) (e : TypeId) : Option (Value × Nat × Nat) := (P.info? e).bind fun i => i.zero.map fun z => (z, i.size, i.bytes)
theorem byOf_parts {e : TypeId} {z : Value} {sz by_ : Nat} (h : byOf P e = some (z, sz, by_)) : ∃ i, P.info? e = some i ∧ i.zero = some z ∧ i.size = sz ∧ i.bytes = by_ := by
  unfold byOf at h
  obtain ⟨i, hi, h2⟩ := Option.bind_eq_some_iff.1 h
  obtain ⟨z', hz, h3⟩ := Option.map_eq_some_iff.1 h2
  simp only [Prod.mk.injEq] at h3
  obtain ⟨rfl, rfl, rfl⟩ := h3
  exact ⟨i, hi, hz, rfl, rfl⟩

/-- append(v, news...) onto a row of the call's own (or nil) -/
theorem R.append {s : Operand} {e : TypeId} {zv : Value} {sz by_ : Nat} {base : Nat} {v : Value} {k : Nat} {xs : List Value} {bk off m c : Nat} {news : List Value}
    (hs : look g s = some v) (hx : look g x = some (.slice (some ⟨bk, off, none⟩) m c)) (hu : P.underlying t = some (.slice e)) (hi : byOf P e = some (zv, sz, by_)) (hz : zv.cells.size = sz) (hd : Nat.blt d n.sz = true)
    (hown : w.ownsRow base e sz v k xs) (hn : At w bk off news) (hl : news.length = m * sz) (h1 : ∀ u ∈ news, u.oneCell' = true) (hsz : 0 < sz) (hb1 : k + m ≤ 9223372036854775807) (hb2 : (k + m) * by_ ≤ 140737488355328) (hb3 : base ≤ w.heap.size)
    (cont : ∀ v' w', w'.ownsRow base e sz v' (k + m) (xs ++ news) → Mod v.ownBlock.toList w w' → (v'.ownBlock = v.ownBlock ∨ v'.ownBlock = some w.heap.size) → (v' = .slice none 0 0 ↔ v = .slice none 0 0 ∧ m = 0) → R P ops Q rest n ((d, v') :: g) w') :
    R P ops Q (⟨some d, .call ⟨.builtin .append, #[s, x], #[t, t]⟩, ty, pos, af, none⟩ :: rest) n g w := by
  obtain ⟨i, hi, hz0, hz1, hz2⟩ := byOf_parts hi
  obtain ⟨v', w', hr, h2, h3, h4, h5⟩ := run_append_own_at (P := P) w base t ty e i zv sz by_ hu hi hz0 hz1 hz2 hz hsz v k xs hown ⟨bk, off, none⟩ m c news hl (fun j u hj => by rw [add_at]; exact hn j u hj) h1 (by unfold maxLen; omega) hb2 hb3
  refine R.ac (w' := w') (v := v') hd (fun a f => ?_) (cont v' w' h2 (grown_mod h3) h5 h4)
  simp [execOp, resolve, invoke, builtin, f.eval hs, f.eval hx, hr]
/-- make([]T, 0, m) -/
theorem R.make0 {e : TypeId} {zv : Value} {sz by_ : Nat} {m : Nat} {i j : Int} {k1 k2 : IntKind} (hx : look g x = some (.int k1 i)) (hy : look g y = some (.int k2 j)) (hu : P.underlying t = some (.slice e)) (hi : byOf P e = some (zv, sz, by_)) (hd : Nat.blt d n.sz = true)
    (h0 : i = 0) (hj : j = (m : Int)) (hb1 : m ≤ 9223372036854775807) (hb2 : by_ * m ≤ 281474976710656)
    (cont : ∀ b w', w'.ownsRow w.heap.size e sz (.slice (some ⟨b, 0, none⟩) 0 m) 0 [] → Mod [] w w' → w.heap.size = b → R P ops Q rest n ((d, .slice (some ⟨b, 0, none⟩) 0 m) :: g) w') :
    R P ops Q (⟨some d, .makeSlice t x y, ty, pos, af, none⟩ :: rest) n g w := by
  subst h0 hj
  obtain ⟨ti, hi, hz0, hz1, hz2⟩ := byOf_parts hi
  obtain ⟨w', hr, h2, h3⟩ := run_make_own (P := P) w w.heap.size t e ti zv sz hu hi hz0 hz1 k1 k2 m (by rw [hz2]; exact hb2) (by unfold maxLen; omega) (Nat.le_refl _)
  refine R.ac (w' := w') (v := .slice (some ⟨w.heap.size, 0, none⟩) 0 m) hd (fun a f => ?_) (cont _ w' h2 ⟨h3.os, h3.tape, h3.output, h3.size, fun k hk _ => h3.block k hk (by simp)⟩ rfl)
  simp [execOp, f.eval hx, f.eval hy, hr]

/-! []T{v0, v1, ..}: every element written -/
def enumF : Nat → List Value → List (Nat × Value)
  | _, [] => []
  | i, v :: l => (i, v) :: enumF (i + 1) l
theorem zip_fold (cells : List Value) (off : Nat) : ∀ (vs : List Value) (k : Nat), off + k + vs.length ≤ cells.length →
    ((vs.zipIdx k).foldl (fun (cs : Array Value) (p : Value × Nat) => cs.setIfInBounds (off + p.2) p.1) cells.toArray) = (cells.take (off + k) ++ vs ++ cells.drop (off + k + vs.length)).toArray := by
  intro vs
  induction vs generalizing cells with
  | nil => intro k h; simp
  | cons v vs ih =>
    intro k h
    simp only [List.zipIdx_cons, List.foldl_cons]
    have hlt : off + k < cells.length := by simp at h; omega
    rw [List.setIfInBounds_toArray, ih (cells.set (off + k) v) (k + 1) (by simp at h ⊢; omega)]
    congr 1
    have e := list_seg_step cells (off + k) v vs (by simp at h; omega)
    simpa [Nat.add_assoc, Nat.add_comm, Nat.add_left_comm] using e
theorem fill_enum (sz : Nat) : ∀ (vs : List Value) (k : Nat) (cells : List Value), (∀ v ∈ vs, v.cells.size = sz) → cells.length = (k + vs.length) * sz →
    Instr.fill (fun i => some (i * sz, sz)) cells.toArray (enumF k vs) = some (cells.take (k * sz) ++ (vs.map fun v => v.cells.toList).flatten).toArray := by
  intro vs
  induction vs with
  | nil => intro k cells _ hl; simp at hl; simp [enumF, Instr.fill, ← hl]
  | cons v vs ih =>
    intro k cells hs hl
    have hv := hs v (by simp)
    have hkl : k * sz + sz ≤ cells.length := by
      rw [hl, List.length_cons]
      have e : (k + (vs.length + 1)) * sz = k * sz + vs.length * sz + sz := by simp [Nat.add_mul]; omega
      omega
    simp only [enumF, Instr.fill]
    rw [if_neg (by simp [hv]; omega)]
    have hz := zip_fold cells (k * sz) v.cells.toList 0 (by simp [hv]; omega)
    have hz' : (v.cells.zipIdx.foldl (fun (cs : Array Value) (p : Value × Nat) => cs.setIfInBounds (k * sz + p.2) p.1) cells.toArray) = (cells.take (k * sz) ++ v.cells.toList ++ cells.drop (k * sz + sz)).toArray := by
      rw [← Array.foldl_toList, Array.toList_zipIdx]
      simpa [hv] using hz
    rw [show (fun (cs : Array Value) (x : Value × Nat) => match x with | (c, j) => cs.setIfInBounds (k * sz + j) c) = (fun (cs : Array Value) (p : Value × Nat) => cs.setIfInBounds (k * sz + p.2) p.1) from rfl, hz']
    rw [ih (k + 1) _ (fun u hu => hs u (by simp [hu])) (by
      have e1 : (k + (vs.length + 1)) * sz = k * sz + vs.length * sz + sz := by simp [Nat.add_mul]; omega
      have e2 : (k + 1 + vs.length) * sz = k * sz + sz + vs.length * sz := by simp [Nat.add_mul]
      have e3 : cells.length = k * sz + vs.length * sz + sz := by rw [hl, List.length_cons]; exact e1
      simp only [List.length_append, List.length_take, List.length_drop, Array.length_toList, hv, e2, e3]
      omega)]
    congr 2
    have h1 : (cells.take (k * sz)).length = k * sz := by simp; omega
    rw [List.take_append_of_le_length (by simp [hv]; rw [Nat.min_eq_left (by omega)]; simp [Nat.add_mul])]
    rw [List.take_of_length_le (by simp [hv]; rw [Nat.min_eq_left (by omega)]; simp [Nat.add_mul])]
    simp
theorem R.buildSlice {e : TypeId} {zv : Value} {sz : Nat} {parts : List (Nat × Operand)} {vs : List Value} (hv : lookAll g (parts.map (·.2)) = some vs) (hp : parts.map (·.1) = List.range parts.length) (hu : P.underlying t = some (.slice e)) (hs : szOf P e = some sz) (hz : zeroOf P e = some zv)
    (hd : Nat.blt d n.sz = true) (hc : ∀ v ∈ vs, v.cells.size = sz) (hsz : 0 < sz) (hm : parts.length * sz ≤ 16777216) (h0 : 0 < parts.length)
    (cont : ∀ b w', New w w' b e (vs.map fun v => v.cells.toList).flatten → R P ops Q rest n ((d, .slice (some ⟨b, 0, none⟩) parts.length parts.length) :: g) w') :
    R P ops Q (⟨some d, .buildSlice t parts.length parts.toArray, ty, pos, af, none⟩ :: rest) n g w := by
  have hlen : vs.length = parts.length := by
    have : ∀ (l : List Operand) (us : List Value), lookAll g l = some us → us.length = l.length := by
      intro l
      induction l with
      | nil => intro us h; simp [lookAll] at h; simp [h]
      | cons a l ih =>
        intro us h
        unfold lookAll at h
        split at h
        · cases h
        · split at h
          · cases h
          · rename_i vs' hvs'
            simp at h
            subst h
            simp [ih _ hvs']
    simpa using this _ _ hv
  have hen : ∀ (a : Act), Fr n g a → (parts.toArray.map fun p => (p.1, a.eval p.2)).toList = enumF 0 vs := by
    intro a f
    have h1 := f.evalAll hv
    have key : ∀ (ps : List (Nat × Operand)) (k : Nat) (us : List Value), ps.map (·.1) = List.range' k ps.length → (ps.map (·.2)).map a.eval = us → ps.map (fun p => (p.1, a.eval p.2)) = enumF k us := by
      intro ps
      induction ps with
      | nil => intro k us _ h; simp at h; subst h; rfl
      | cons p ps ih =>
        intro k us h h'
        simp [List.range'_succ] at h
        cases us with
        | nil => simp at h'
        | cons u us =>
          simp at h'
          simp [enumF, h.1, h'.1, ih (k + 1) us h.2 (by simpa using h'.2)]
    simpa using key parts 0 vs (by rw [hp, List.range_eq_range']) h1
  have hfl := fill_enum sz vs 0 (((Array.range (parts.length * sz)).map (zv.cells[· % zv.cells.size]!)).toList) hc (by simp [hlen])
  simp only [Array.toArray_toList, Nat.zero_mul, List.take_zero, List.nil_append] at hfl
  refine R.ac (w' := w.alloc (.cells (vs.map fun v => v.cells.toList).flatten.toArray e)) (v := .slice (some ⟨w.heap.size, 0, none⟩) parts.length parts.length) hd (fun a f => ?_) (cont _ _ (New.ofAlloc w e _))
  have hne : ¬ (parts.length * sz = 0) := by
    intro h; rcases Nat.mul_eq_zero.1 h with h' | h' <;> omega
  have hbig : ¬ (16777216 < parts.length * sz) := by omega
  have hen' := hen a f
  simp only [execOp, Instr.buildSlice, Sem.run_bind, run_underlying hu, Result.andThen_ok, run_szOf hs]
  simp only [hen']
  rw [if_neg (by simpa using hbig)]
  simp only [Sem.run_bind, Sem.run_pure, Result.andThen_ok, hne, if_false, run_zeroOf hz]
  rw [hfl]
  simp [newRow, newObj]
  rfl
/-- elements of one cell -/
theorem R.buildSlice1 {m : Nat} {e : TypeId} {zv : Value} {parts : List (Nat × Operand)} {vs : List Value} (hm : parts.length = m + 1) (hv : lookAll g (parts.map (·.2)) = some vs) (hp : parts.map (·.1) = List.range parts.length) (hu : P.underlying t = some (.slice e)) (hs : szOf P e = some 1) (hz : zeroOf P e = some zv)
    (hd : Nat.blt d n.sz = true) (hc : ∀ v ∈ vs, v.oneCell' = true) (hb : m + 1 ≤ 16777216)
    (cont : ∀ b w', New w w' b e vs → R P ops Q rest n ((d, .slice (some ⟨b, 0, none⟩) (m + 1) (m + 1)) :: g) w') :
    R P ops Q (⟨some d, .buildSlice t (m + 1) parts.toArray, ty, pos, af, none⟩ :: rest) n g w := by
  have h1 : ∀ v ∈ vs, v.cells = #[v] := fun v hvm => by have := hc v hvm; cases v <;> first | rfl | simp [Value.oneCell'] at this
  rw [← hm]
  refine R.buildSlice hv hp hu hs hz (sz := 1) hd (fun v hvm => by rw [h1 v hvm]; rfl) (by decide) (by omega) (by omega) ?_
  intro b w' hn
  refine (hm ▸ cont b w' ?_)
  have : (vs.map fun v => v.cells.toList).flatten = vs := by
    have : vs.map (fun v => v.cells.toList) = vs.map (fun v => [v]) := List.map_congr_left fun v hvm => by rw [h1 v hvm]
    rw [this]
    clear this h1 hc hv hn cont
    induction vs with
    | nil => rfl
    | cons v vs ih => simp [ih]
  rw [this] at hn
  exact hn
/-- one element of many cells -/
theorem R.buildSliceA {e : TypeId} {zv : Value} {sz : Nat} {x0 : Operand} {cs : List Value} (hv : look g x0 = some (.agg cs.toArray)) (hu : P.underlying t = some (.slice e)) (hs : szOf P e = some sz) (hz : zeroOf P e = some zv)
    (hd : Nat.blt d n.sz = true) (hc : cs.length = sz) (hsz : 0 < sz) (hb : sz ≤ 16777216)
    (cont : ∀ b w', New w w' b e cs → R P ops Q rest n ((d, .slice (some ⟨b, 0, none⟩) 1 1) :: g) w') :
    R P ops Q (⟨some d, .buildSlice t 1 #[(0, x0)], ty, pos, af, none⟩ :: rest) n g w := by
  refine R.buildSlice (parts := [(0, x0)]) (vs := [.agg cs.toArray]) (sz := sz) (by simp [lookAll, hv]) rfl hu hs hz hd (by simpa [Value.cells] using hc) hsz (by simpa using hb) (by simp) ?_
  intro b w' hn
  refine cont b w' ?_
  simpa [Value.cells] using hn
/-- string(v), v a row of the call's own -/
theorem E.bytesOwn {v : Value} {l : List UInt8} {e : TypeId} {base k : Nat} (hx : look g x = some v) (hu : P.underlying t = some (.slice e)) (he : P.underlying e = some (.int .u8)) (hu2 : P.underlying t' = some .string) (hown : w.ownsRow base e 1 v k (l.map ub)) :
    Ev P n g ⟨dst, .convert t t' x, ty, pos, af, gu⟩ w (str l) := by
  rcases hown.2 with ⟨rfl, h0⟩ | ⟨gk, cap, cur, rfl, hb, hg, hk, hcap, hsz, htake⟩
  · have : l = [] := by have := hown.1; rw [h0] at this; simpa using this
    subst this
    exact E.bytesStr0 hx hu he hu2
  · refine E.bytesStr hx hu he hu2 (by simpa using hown.1) ?_
    intro i u hi
    rw [Nat.zero_add, cell_of_row w gk i cur e (0, 0) hg]
    rw [← htake, List.getElem?_take] at hi
    split at hi
    · simpa using hi
    · cases hi
theorem own_at {base : Nat} {e : TypeId} {sz k cap gk : Nat} {xs : List Value} (h : w.ownsRow base e sz (.slice (some ⟨gk, 0, none⟩) k cap) k xs) : At w gk 0 xs := fun i v hv => by
  have := h.cells (g := gk) rfl i v hv
  rw [add_at] at this; exact this
theorem ub_one (b : UInt8) : (ub b).oneCell' = true := rfl
end ops
end Go.Eng
