/-
  Bytes in slices: copy, make, string(b), parts that are known for good (over any program).
-/
import Derived.Test.YtifghjeapfijkaaGreatDoorMapOps
import Derived.Laws.MakeOwn
namespace Go.Eng
open Go.RowKit

def encB (b : UInt8) : List Value := [ub b]
instance : Enc encB 1 := ⟨fun _ => rfl, fun o u hu => by simp [encB] at hu; subst hu; rfl⟩
instance {o : UInt8} : CellOf (encB o) 0 (ub o) := ⟨rfl⟩
theorem encB_map (l : List UInt8) : l.flatMap encB = l.map ub := by
  induction l with
  | nil => rfl
  | cons a l ih => rw [List.flatMap_cons, ih]; rfl
section
variable {K K' : Kn} {w w' : World} {Hs Gs Rs : List Hl} {F X : Hl} {α : Type} {enc : α → List Value} {sz : Nat}
theorem KSl.first {ad : Option Addr} {m : Nat} {L : List α} (h : KSl enc sz K ad m L) {a : Nat} (h1 : a ≤ m) : KSl enc sz K ad a (L.take a) := by
  refine ⟨by rw [List.length_take, h.len]; omega, fun y hy => h.size y (List.mem_of_mem_take hy), fun hne => ?_⟩
  obtain ⟨b, off, e, hk⟩ := h.at_ (by intro e; rw [e] at hne; simp at hne)
  refine ⟨b, off, e, fun i v hv => hk i v ?_⟩
  have : L.flatMap enc = (L.take a).flatMap enc ++ (L.drop a).flatMap enc := by rw [← List.flatMap_append, List.take_append_drop]
  rw [this, List.getElem?_append_left (List.getElem?_eq_some_iff.1 hv).1]; exact hv
theorem KRow.parts {ad : Option Addr} {m c : Nat} {L : List α} (h : KRow enc sz K (.slice ad m c) L) : L.length = m ∧ m ≤ c ∧ KSl enc sz K ad m L := by
  obtain ⟨ad', cap', he, h1, h2⟩ := h.ex
  simp only [Value.slice.injEq] at he
  obtain ⟨rfl, rfl, rfl⟩ := he
  exact ⟨rfl, h2, h1⟩
theorem KRow.first {ad : Option Addr} {m c : Nat} {L : List α} (h : KRow enc sz K (.slice ad m c) L) {i : Nat} (hi : i ≤ m) : KRow enc sz K (.slice ad i c) (L.take i) := by
  obtain ⟨h1, h2, h3⟩ := h.parts
  have hl : (L.take i).length = i := by rw [List.length_take]; omega
  exact ⟨ad, c, by rw [hl], by rw [hl]; exact h3.first hi, by omega⟩
theorem KRow.behind {ad : Option Addr} {m c : Nat} {L : List α} (h : KRow enc sz K (.slice ad m c) L) {i : Nat} (hi : i ≤ m) : KRow enc sz K (.slice (subAd ad c i sz) (m - i) (c - i)) (L.drop i) := by
  obtain ⟨h1, h2, h3⟩ := h.parts
  have hl : (L.drop i).length = m - i := by rw [List.length_drop]; omega
  exact ⟨_, _, by rw [hl], by rw [hl]; exact h3.tail h2 hi, by omega⟩
theorem KRow.part {ad : Option Addr} {m c : Nat} {L : List α} (h : KRow enc sz K (.slice ad m c) L) {i j : Nat} (hij : i ≤ j) (hj : j ≤ m) : KRow enc sz K (.slice (subAd ad c i sz) (j - i) (c - i)) ((L.drop i).take (j - i)) :=
  (h.behind (by omega)).first (by omega)
/-- bytes within a block of the call's own -/
theorem Rd.bytes {b off m c : Nat} {t : TypeId} {l c1 c3 : List Value} {M : List UInt8} [i : InH b (.cells l.toArray t (0, 0)) Hs] (e : l = c1 ++ (M.map ub ++ c3)) (ho : off = c1.length) (hm : M.length = m) (hc : m ≤ c) : Rd encB 1 K Hs (.slice (some ⟨b, off, none⟩) m c) M := ⟨some ⟨b, off, none⟩, c, by rw [hm], by omega, fun _ _ => rfl, fun w hs => ⟨rfl, fun _ _ => rfl, fun _ => ⟨b, off, rfl, by rw [encB_map]; exact hs.ldM (b := b) e ho⟩⟩⟩
end
section ops
variable {P : Program} {Q : Post} {n : Nn} {g : Env} {w : World} {dst : Option Nat} {ty : TypeId} {pos : String} {af : Array Edge} {gu : Option (Nat × Bool)} {ops : Array Oper} {rest : List Oper} {d : Nat}
variable {t t' : TypeId} {x y z : Operand} {K : Kn} {Hs Rs : List Hl} {F : Hl} {C : Hl → List Hl} {α : Type} {enc : α → List Value} {sz : Nat} {e : TypeId}
theorem E.bytesRd {ad : Option Addr} {m c : Nat} {L : List UInt8} (hs : Sat K w Hs) (hx : look g x = some (.slice ad m c)) (hu : P.underlying t = some (.slice e)) (he : P.underlying e = some (.int .u8)) (hu2 : P.underlying t' = some .string) [r : Rd encB 1 K Hs (.slice ad m c) L] (hL : L ≠ []) :
    Ev P n g ⟨dst, .convert t t' x, ty, pos, af, gu⟩ w (str L) := by
  have hl := r.len
  obtain ⟨b, off, rfl, hat⟩ := (r.sl w hs).at_ hL
  rw [encB_map] at hat
  exact E.bytesStr hx hu he hu2 hl.1 hat
/-- make([]T, m) -/
theorem made_cells {zs : List Value} (hz : 0 < zs.length) : ∀ m : Nat, (madeCells zs.toArray (m * zs.length)).toList = (List.replicate m zs).flatten := by
  intro m
  apply List.ext_getElem?
  intro i
  simp only [madeCells, Array.toList_map, Array.toList_range, List.getElem?_map]
  have hfl : (List.replicate m zs).flatten.length = m * zs.length := by simp
  by_cases hi : i < m * zs.length
  · rw [List.getElem?_range hi, Option.map_some]
    have hlt : i % zs.length < zs.length := Nat.mod_lt _ hz
    have key : ∀ (m i : Nat), i < m * zs.length → (List.replicate m zs).flatten[i]? = zs[i % zs.length]? := by
      intro m
      induction m with
      | zero => intro i h; simp at h
      | succ m ih =>
        intro i h
        rw [List.replicate_succ, List.flatten_cons]
        by_cases h2 : i < zs.length
        · rw [List.getElem?_append_left h2, Nat.mod_eq_of_lt h2]
        · rw [List.getElem?_append_right (by omega), ih (i - zs.length) (by rw [Nat.add_mul] at h; omega)]
          congr 1
          exact (Nat.mod_eq_sub_mod (by omega)).symm
    rw [key m i hi, List.getElem?_eq_getElem hlt]
    simp [hlt]
  · rw [List.getElem?_eq_none (by simp; omega), List.getElem?_eq_none (by rw [hfl]; omega)]; rfl
theorem R.cmakeZ (z0 : α) {m : Nat} {i j : Int} {k1 k2 : IntKind} {zv : Value} {by_ : Nat} (hs : Sat K w Hs) (hx : look g x = some (.int k1 i)) (hy : look g y = some (.int k2 j)) (hu : P.underlying t = some (.slice e)) (hi : byOf P e = some (zv, sz, by_)) (hz : zv.cells.toList = enc z0) (hd : Nat.blt d n.sz = true)
    (h0 : i = (m : Int)) (hj : j = (m : Int)) (hb : by_ * m ≤ 281474976710656) (hb1 : m ≤ 9223372036854775807) [en : Enc enc sz] (hsz : 0 < sz)
    (cont : ∀ b w', RowL e enc sz (.slice (some ⟨b, 0, none⟩) m m) (List.replicate m z0) (row b e ((List.replicate m z0).flatMap enc)) → Sat K w' (row b e ((List.replicate m z0).flatMap enc) :: Hs) → R P ops Q rest n ((d, .slice (some ⟨b, 0, none⟩) m m) :: g) w') :
    R P ops Q (⟨some d, .makeSlice t x y, ty, pos, af, none⟩ :: rest) n g w := by
  subst h0 hj
  obtain ⟨ti, hi, hz0, hz1, hz2⟩ := byOf_parts hi
  have hr := run_make (P := P) w t e ti zv hu hi hz0 k1 k2 m m (by omega) (by omega) (by rw [hz2]; exact Int.ofNat_le.2 hb) (by omega)
  have hzl : (enc z0).length = sz := en.len z0
  have hcells : madeCells zv.cells ((m : Int).toNat * ti.size) = ((List.replicate m z0).flatMap enc).toArray := by
    apply Array.ext'
    have e1 : zv.cells = (enc z0).toArray := by rw [← hz]
    rw [e1, Int.toNat_natCast, hz1, ← hzl, made_cells (by omega)]
    simp [List.flatMap_def]
  rw [hcells] at hr
  simp only [Int.toNat_natCast] at hr
  have hnew := New.ofAlloc w e ((List.replicate m z0).flatMap enc)
  have hfl : ((List.replicate m z0).flatMap enc).length = m * sz := by rw [flatMap_len (fun y _ => en.len y)]; simp
  refine R.ac (w' := w.alloc (.cells ((List.replicate m z0).flatMap enc).toArray e)) (v := .slice (some ⟨w.heap.size, 0, none⟩) m m) hd (fun a f => ?_) (cont _ _ ⟨⟨by rw [hfl]; simp, .inr ⟨w.heap.size, m, [], by simp, by simp, by simp, by unfold maxLen; omega, by rw [List.append_nil, hfl]⟩⟩, fun y _ => en.len y⟩ (hs.new hnew))
  simp [execOp, f.eval hx, f.eval hy, hr]
/-- copy(dst, src) of bytes into a block of the call's own -/
theorem R.ccopyB {b off m c m2 c2 : Nat} {ad : Option Addr} {bt : TypeId} {l : List Value} {M : List UInt8} (hs : Sat K w Hs) (hx : look g x = some (.slice (some ⟨b, off, none⟩) m c)) (hy : look g y = some (.slice ad m2 c2)) (hu : P.underlying t = some (.slice e)) (hz : szOf P e = some 1) (hd : Nat.blt d n.sz = true)
    [cx : CtxB b bt l Hs C Rs] [r : Rd encB 1 K Hs (.slice ad m2 c2) M] (hM : M ≠ []) (hfit : off + m ≤ l.length)
    (k : ∀ w', Sat K w' (C (row b bt (l.take off ++ (M.take m).map ub ++ l.drop (off + (M.take m).length)))) → R P ops Q rest n ((d, .int .i64 ((min M.length m : Nat) : Int)) :: g) w') :
    R P ops Q (⟨some d, .call ⟨.builtin .copy, #[x, y], #[t, t']⟩, ty, pos, af, none⟩ :: rest) n g w := by
  have cx := cx.ctx
  have hl := r.len
  obtain ⟨b2, off2, rfl, hat⟩ := (r.sl w hs).at_ hM
  rw [encB_map] at hat
  obtain ⟨ti, hti, hsz⟩ : ∃ ti, P.info? e = some ti ∧ ti.size = 1 := by
    unfold szOf at hz
    obtain ⟨ti, h1, h2⟩ := Option.map_eq_some_iff.1 hz
    exact ⟨ti, h1, h2⟩
  have hld := run_loadCells_list (P := P) w ⟨b2, off2, none⟩ ((M.take m).map ub) (fun j u hj => by
    rw [add_at]
    refine hat j u ?_
    rw [List.map_take, List.getElem?_take] at hj
    split at hj
    · exact hj
    · cases hj)
  have hlen : ((M.take m).map ub).length = Nat.min m2 m := by rw [List.length_map, List.length_take, hl.1]; exact Nat.min_comm m m2
  have hst := run_storeCells_at (P := P) b off bt ((M.take m).map ub) 0 l.toArray w (hs.front (F := row b bt l)).blk (by rw [hlen]; have : Nat.min m2 m ≤ m := Nat.min_le_right _ _; simp; omega) (ub_all _)
  simp only [Nat.add_zero] at hst
  rw [hlen] at hst hld
  refine R.ac (w' := w.setRow b (l.take off ++ (M.take m).map ub ++ l.drop (off + (M.take m).length)).toArray) (v := .int .i64 ((min M.length m : Nat) : Int)) hd (fun a f => ?_) (k _ (hs.back (F := row b bt l) ((hs.front (F := row b bt l)).put (blk_setRow (hs.front (F := row b bt l)).blk _) (mod_setRow _))))
  have hl2 : (M.take m).length = Nat.min m2 m := by rw [← hlen, List.length_map]
  have hmn : min M.length m = Nat.min m2 m := by rw [hl.1]
  rw [hl2, hmn]
  generalize (M.take m).map ub = cs at hst hld
  simp [execOp, resolve, invoke, builtin, f.eval hx, f.eval hy, Builtin.copy_, run_underlying hu, Builtin.lenOf, Builtin.firstCells, sizeOf, typeInfo, hti, hsz, hld, hst, goInt]
end ops
/-! numbers -/
def beNat (l : List UInt8) : Nat := l.foldl (fun u c => 256 * u + c.toNat) 0
theorem beNat_snoc (l : List UInt8) (c : UInt8) : beNat (l ++ [c]) = 256 * beNat l + c.toNat := by simp [beNat]
theorem be_lt : ∀ (l : List UInt8) (u : Nat), l.foldl (fun u c => 256 * u + c.toNat) u < 256 ^ l.length * (u + 1)
  | [], u => by simp
  | c :: l, u => by
    have h1 := be_lt l (256 * u + c.toNat)
    have hc := c.toNat_lt
    have h2 : 256 ^ l.length * (256 * u + c.toNat + 1) ≤ 256 ^ l.length * (256 * (u + 1)) := Nat.mul_le_mul_left _ (by omega)
    rw [List.foldl_cons, List.length_cons, Nat.pow_succ, Nat.mul_assoc]
    omega
theorem beNat_lt (l : List UInt8) : beNat l < 256 ^ l.length := by
  have := be_lt l 0
  simpa [beNat] using this
/-- a byte of a number -/
def byteAt (n : Int) (s : Nat) : UInt8 := UInt8.ofNat (n / 2 ^ s % 256).toNat
theorem byteAt_wrap (n : Int) (s : Nat) (hs : s ≤ 64) : Value.int .u8 (IntKind.u8.wrap (n.fdiv (2 ^ (min s IntKind.i64.bits)))) = ub (byteAt n s) := by
  have e : min s IntKind.i64.bits = s := Nat.min_eq_left hs
  have hp : (0 : Int) < 2 ^ s := Int.pow_pos (by decide)
  rw [e, IntKind.wrap_u8, Int.fdiv_eq_ediv_of_nonneg _ (Int.le_of_lt hp)]
  simp only [ub, byteAt, Value.int.injEq, true_and]
  have h1 : 0 ≤ n / 2 ^ s % 256 := Int.emod_nonneg _ (by decide)
  have h2 : n / 2 ^ s % 256 < 256 := Int.emod_lt_of_pos _ (by decide)
  rw [UInt8.toNat_ofNat']
  omega
def num8 (n : Int) : List UInt8 := [byteAt n 56, byteAt n 48, byteAt n 40, byteAt n 32, byteAt n 24, byteAt n 16, byteAt n 8, byteAt n 0]
def num4 (n : Int) : List UInt8 := [byteAt n 24, byteAt n 16, byteAt n 8, byteAt n 0]
theorem byteAt_toNat (n : Int) (s : Nat) : ((byteAt n s).toNat : Int) = n / 2 ^ s % 256 := by
  have h1 : 0 ≤ n / 2 ^ s % 256 := Int.emod_nonneg _ (by decide)
  have h2 : n / 2 ^ s % 256 < 256 := Int.emod_lt_of_pos _ (by decide)
  rw [byteAt, UInt8.toNat_ofNat']
  omega
theorem beNat_num8 {n : Int} (h0 : 0 ≤ n) (h1 : n < 18446744073709551616) : (beNat (num8 n) : Int) = n := by
  have e (s : Nat) := byteAt_toNat n s
  have e56 := e 56; have e48 := e 48; have e40 := e 40; have e32 := e 32; have e24 := e 24; have e16 := e 16; have e8 := e 8; have e0 := e 0
  simp only [beNat, num8, List.foldl_cons, List.foldl_nil]
  simp only [Int.reducePow] at e56 e48 e40 e32 e24 e16 e8 e0
  omega
theorem beNat_num4 {n : Int} (h0 : 0 ≤ n) (h1 : n < 4294967296) : (beNat (num4 n) : Int) = n := by
  have e (s : Nat) := byteAt_toNat n s
  have e24 := e 24; have e16 := e 16; have e8 := e 8; have e0 := e 0
  simp only [beNat, num4, List.foldl_cons, List.foldl_nil]
  simp only [Int.reducePow] at e24 e16 e8 e0
  omega
theorem byteAt_eq {n : Int} {s : Nat} {c : UInt8} (h : n / 2 ^ s % 256 = (c.toNat : Int)) : byteAt n s = c := by
  apply UInt8.toNat_inj.1
  have := byteAt_toNat n s
  omega
theorem num8_beNat {l : List UInt8} (h : l.length = 8) : num8 (beNat l) = l := by
  match l, h with
  | [a, b, c, d, e, f, g, h], _ =>
    have := a.toNat_lt; have := b.toNat_lt; have := c.toNat_lt; have := d.toNat_lt; have := e.toNat_lt; have := f.toNat_lt; have := g.toNat_lt; have := h.toNat_lt
    simp only [num8, beNat, List.foldl_cons, List.foldl_nil, List.cons.injEq, and_true]
    refine ⟨?_, ?_, ?_, ?_, ?_, ?_, ?_, ?_⟩ <;> (apply byteAt_eq; simp only [Int.reducePow]; omega)
theorem num4_beNat {l : List UInt8} (h : l.length = 4) : num4 (beNat l) = l := by
  match l, h with
  | [a, b, c, d], _ =>
    have := a.toNat_lt; have := b.toNat_lt; have := c.toNat_lt; have := d.toNat_lt
    simp only [num4, beNat, List.foldl_cons, List.foldl_nil, List.cons.injEq, and_true]
    refine ⟨?_, ?_, ?_, ?_⟩ <;> (apply byteAt_eq; simp only [Int.reducePow]; omega)
/-- u<<8 | c -/
theorem shl_or {u : Nat} {c : UInt8} (hu : u < 72057594037927936) : IntKind.u64.wrap ((BitVec.ofInt IntKind.u64.bits (IntKind.u64.wrap ((u : Int) * 2 ^ (min (8 : Int).toNat IntKind.u64.bits))) ||| BitVec.ofInt IntKind.u64.bits (IntKind.u64.wrap (c.toNat : Int))).toNat : Int) = ((256 * u + c.toNat : Nat) : Int) := by
  have hc := c.toNat_lt
  have e1 : IntKind.u64.wrap ((u : Int) * 2 ^ (min (8 : Int).toNat IntKind.u64.bits)) = ((256 * u : Nat) : Int) := by
    rw [IntKind.wrap_u64, show min (8 : Int).toNat IntKind.u64.bits = 8 from rfl]
    omega
  have e2 : IntKind.u64.wrap (c.toNat : Int) = ((c.toNat : Nat) : Int) := by rw [IntKind.wrap_u64]; omega
  rw [e1, e2, BitVec.ofInt_natCast, BitVec.ofInt_natCast, BitVec.toNat_or, BitVec.toNat_ofNat, BitVec.toNat_ofNat, show IntKind.u64.bits = 64 from rfl, Nat.mod_eq_of_lt (by omega), Nat.mod_eq_of_lt (by omega)]
  have := Nat.two_pow_add_eq_or_of_lt (i := 8) (b := c.toNat) (by omega) u
  rw [show (2 : Nat) ^ 8 * u = 256 * u by omega] at this
  rw [← this, IntKind.wrap_u64]
  omega
end Go.Eng
