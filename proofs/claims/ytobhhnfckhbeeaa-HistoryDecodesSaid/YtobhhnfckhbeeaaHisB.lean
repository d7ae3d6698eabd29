/-
  The bytes of a history: the plain law.
-/
import Derived.Test.YtobhhnfckhbeeaaPlay
namespace Go.Eng
theorem wrapU8 (n : Int) : Value.int .u8 (IntKind.u8.wrap n) = ub (byteAt n 0) := by
  have := byteAt_wrap n 0 (by omega)
  rwa [show min 0 IntKind.i64.bits = 0 from rfl, Int.pow_zero, Int.fdiv_one] at this
theorem shl_orI {u : Nat} {c : UInt8} (hu : u < 16777216) : IntKind.i64.wrap ((BitVec.ofInt IntKind.i64.bits (IntKind.i64.wrap ((u : Int) * 2 ^ (min (8 : Int).toNat IntKind.i64.bits))) ||| BitVec.ofInt IntKind.i64.bits (IntKind.i64.wrap (c.toNat : Int))).toNat : Int) = ((256 * u + c.toNat : Nat) : Int) := by
  have hc := c.toNat_lt
  have e1 : IntKind.i64.wrap ((u : Int) * 2 ^ (min (8 : Int).toNat IntKind.i64.bits)) = ((256 * u : Nat) : Int) := by
    rw [show min (8 : Int).toNat IntKind.i64.bits = 8 from rfl, wrap_i64 (by omega) (by omega)]
    omega
  have e2 : IntKind.i64.wrap (c.toNat : Int) = ((c.toNat : Nat) : Int) := wrap_i64 (by omega) (by omega)
  rw [e1, e2, BitVec.ofInt_natCast, BitVec.ofInt_natCast, BitVec.toNat_or, BitVec.toNat_ofNat, BitVec.toNat_ofNat, show IntKind.i64.bits = 64 from rfl, Nat.mod_eq_of_lt (by omega), Nat.mod_eq_of_lt (by omega)]
  have := Nat.two_pow_add_eq_or_of_lt (i := 8) (b := c.toNat) (by omega) u
  rw [show (2 : Nat) ^ 8 * u = 256 * u by omega] at this
  rw [← this, wrap_i64 (by omega) (by omega)]
end Go.Eng
namespace Go.Proofs.Ytobhhnfckhbeeaa
open Go.Eng Go.RowKit Go.Sort
def flagI (x : HEnt) : Int := x.state + if x.perm then 2 else 0
def entH (x : HEnt) : List UInt8 := x.id.1 ++ (num4 x.arr ++ (num4 x.date ++ [byteAt (flagI x) 0]))
theorem num4_len (n : Int) : (num4 n).length = 4 := rfl
theorem entH_len (x : HEnt) : (entH x).length = 41 := by simp [entH, num4_len, x.id.2]
theorem entsH_len (L : List HEnt) : (L.flatMap entH).length = 41 * L.length := by
  induction L with
  | nil => rfl
  | cons x L ih => rw [List.flatMap_cons, List.length_append, ih, entH_len, List.length_cons]; omega
def bytesH (c : Int) (L : List HEnt) : List UInt8 := num4 c ++ L.flatMap entH
theorem bytesH_len (c : Int) (L : List HEnt) : (bytesH c L).length = 4 + 41 * L.length := by rw [bytesH, List.length_append, num4_len, entsH_len]
/-- an entry out of 41 bytes -/
def flOf (l : List UInt8) : UInt8 := (l.drop 40).headD 0
def decX (l : List UInt8) : HEnt := ⟨if h : l.length = 41 then ⟨l.take 32, by simp [h]⟩ else vz, (beNat ((l.drop 32).take 4) : Nat), (beNat ((l.drop 36).take 4) : Nat), ((flOf l).toNat % 2 : Nat), decide (2 ≤ (flOf l).toNat)⟩
def okX (l : List UInt8) : Bool := decide ((flOf l).toNat < 4) && decide ((decX l).check = 0)
theorem check0 {x : HEnt} (h : x.check = 0) : (0 ≤ x.arr ∧ x.arr ≤ 105190559) ∧ (0 ≤ x.date ∧ x.date ≤ 105190559) ∧ (x.state = 0 ∨ x.state = 1) := by
  unfold HEnt.check at h
  split at h
  · simp at h
  · rename_i h1
    split at h
    · simp at h
    · rename_i h2
      simp only [not_or, Bool.not_eq_false] at h1
      exact ⟨isMin_iff.1 h1.1, isMin_iff.1 h1.2, by omega⟩
theorem flag_lt {x : HEnt} (h : x.check = 0) : ((byteAt (flagI x) 0).toNat : Int) = flagI x ∧ 0 ≤ flagI x ∧ flagI x < 4 := by
  have h1 := (check0 h).2.2
  have h2 := byteAt_toNat (flagI x) 0
  rw [Int.pow_zero, Int.ediv_one] at h2
  have h3 : 0 ≤ flagI x ∧ flagI x < 4 := by
    unfold flagI
    cases x.perm <;> simp <;> omega
  exact ⟨by omega, h3⟩
theorem ent_parts (x : HEnt) : (entH x).take 32 = x.id.1 ∧ ((entH x).drop 32).take 4 = num4 x.arr ∧ ((entH x).drop 36).take 4 = num4 x.date ∧ flOf (entH x) = byteAt (flagI x) 0 := by
  have hl := x.id.2
  have e32 : (entH x).drop 32 = num4 x.arr ++ (num4 x.date ++ [byteAt (flagI x) 0]) := by
    rw [entH]; exact List.drop_left' hl
  have e36 : (entH x).drop 36 = num4 x.date ++ [byteAt (flagI x) 0] := by
    rw [show 36 = 32 + 4 from rfl, ← List.drop_drop, e32, show 4 = (num4 x.arr).length from rfl, List.drop_left]
  have e40 : (entH x).drop 40 = [byteAt (flagI x) 0] := by
    rw [show 40 = 36 + 4 from rfl, ← List.drop_drop, e36, show 4 = (num4 x.date).length from rfl, List.drop_left]
  refine ⟨?_, ?_, ?_, ?_⟩
  · rw [entH]; exact List.take_left' hl
  · rw [e32, show 4 = (num4 x.arr).length from rfl, List.take_left]
  · rw [e36, show 4 = (num4 x.date).length from rfl, List.take_left]
  · rw [flOf, e40]; rfl
theorem dec_ent {x : HEnt} (h : x.check = 0) : decX (entH x) = x ∧ (flOf (entH x)).toNat < 4 := by
  obtain ⟨p1, p2, p3, p4⟩ := ent_parts x
  obtain ⟨c1, c2, c3⟩ := check0 h
  obtain ⟨f1, f2⟩ := flag_lt h
  have hf : ((flOf (entH x)).toNat : Int) = flagI x := by rw [p4]; exact f1
  refine ⟨?_, by omega⟩
  unfold decX
  rw [p2, p3]
  have e1 := beNat_num4 c1.1 (by omega)
  have e2 := beNat_num4 c2.1 (by omega)
  obtain ⟨id, arr, date, st, pm⟩ := x
  simp only [HEnt.mk.injEq]
  refine ⟨?_, e1, e2, ?_, ?_⟩
  · rw [dif_pos (entH_len _)]
    exact Subtype.ext p1
  · unfold flagI at hf
    simp only at hf c3
    cases pm <;> simp at hf <;> omega
  · unfold flagI at hf
    simp only at hf c3
    cases pm <;> simp at hf <;> simp <;> omega
theorem ent_dec {l : List UInt8} (hl : l.length = 41) (h : okX l = true) : entH (decX l) = l := by
  simp only [okX, Bool.and_eq_true, decide_eq_true_eq] at h
  obtain ⟨hf, hc⟩ := h
  have e1 : (decX l).id.1 = l.take 32 := by simp only [decX]; rw [dif_pos hl]
  have e2 : num4 (decX l).arr = (l.drop 32).take 4 := by
    simp only [decX]; exact num4_beNat (by simp; omega)
  have e3 : num4 (decX l).date = (l.drop 36).take 4 := by
    simp only [decX]; exact num4_beNat (by simp; omega)
  have e4 : byteAt (flagI (decX l)) 0 = flOf l := by
    apply byteAt_eq
    rw [Int.pow_zero, Int.ediv_one]
    unfold flagI
    simp only [decX]
    by_cases h2 : 2 ≤ (flOf l).toNat
    · simp only [h2, decide_true, if_true]; omega
    · simp only [h2, decide_false, Bool.false_eq_true, if_false]; omega
  rw [entH, e1, e2, e3, e4]
  have h40 : l.drop 40 = [flOf l] := by
    have h1 := List.drop_eq_getElem_cons (l := l) (i := 40) (by omega)
    rw [flOf, h1, List.drop_eq_nil_of_le (by omega)]; rfl
  rw [← h40]
  have a1 : (l.drop 36).take 4 ++ l.drop 40 = l.drop 36 := by
    have := List.take_append_drop 4 (l.drop 36)
    rwa [List.drop_drop] at this
  have a2 : (l.drop 32).take 4 ++ l.drop 36 = l.drop 32 := by
    have := List.take_append_drop 4 (l.drop 32)
    rwa [List.drop_drop] at this
  rw [a1, a2, List.take_append_drop]
/-- the encoding of a history -/
structure GoodB (P : List UInt8) (c : Int) (D : List HEnt) : Prop where
  eq : P = bytesH c D
  cut : isMin c = true
  ss : SS ltH D
  chk : ∀ x ∈ D, x.check = 0
theorem ents_prefix : ∀ {D D' : List HEnt} {r : List UInt8}, (∀ x ∈ D, x.check = 0) → (∀ x ∈ D', x.check = 0) → D.flatMap entH ++ r = D'.flatMap entH → ∃ D2, D' = D ++ D2 ∧ r = D2.flatMap entH
  | [], D', r, _, _, h => ⟨D', rfl, by simpa using h⟩
  | x :: D, [], r, _, _, h => by
    have := congrArg List.length h
    rw [List.flatMap_cons, List.length_append, List.length_append, entH_len] at this
    simp at this
  | x :: D, x' :: D', r, h1, h2, h => by
    rw [List.flatMap_cons, List.flatMap_cons, List.append_assoc] at h
    have h3 := List.append_inj h (by rw [entH_len, entH_len])
    obtain ⟨h4, h5⟩ := h3
    have e1 := (dec_ent (h1 x (by simp))).1
    have e2 := (dec_ent (h2 x' (by simp))).1
    rw [h4, e2] at e1
    subst e1
    obtain ⟨D2, h6, h7⟩ := ents_prefix (fun y hy => h1 y (by simp [hy])) (fun y hy => h2 y (by simp [hy])) h5
    exact ⟨D2, by rw [h6]; rfl, h7⟩
theorem head_inj {c c' : Int} {a b : List UInt8} (h1 : isMin c = true) (h2 : isMin c' = true) (h : num4 c ++ a = num4 c' ++ b) : c = c' ∧ a = b := by
  obtain ⟨h3, h4⟩ := List.append_inj h (by rw [num4_len, num4_len])
  have h1 := isMin_iff.1 h1
  have h2 := isMin_iff.1 h2
  have e1 := beNat_num4 h1.1 (by omega)
  have e2 := beNat_num4 h2.1 (by omega)
  rw [h3] at e1
  exact ⟨by omega, h4⟩
theorem GoodB.uniq {P : List UInt8} {c c' : Int} {D D' : List HEnt} (h : GoodB P c D) (h' : GoodB P c' D') : c = c' ∧ D = D' := by
  have e := h.eq.symm.trans h'.eq
  obtain ⟨e1, e2⟩ := head_inj h.cut h'.cut e
  obtain ⟨D2, e3, e4⟩ := ents_prefix (r := []) h.chk h'.chk (by simpa using e2)
  have : D2 = [] := by
    have := congrArg List.length e4
    rw [entsH_len] at this
    simp at this
    exact List.length_eq_zero_iff.1 (by omega)
  exact ⟨e1, by rw [e3, this, List.append_nil]⟩
/-- what was read so far -/
structure PreB (P : List UInt8) (c : Int) (D : List HEnt) : Prop where
  eq : P.take (4 + 41 * D.length) = bytesH c D
  len : 4 + 41 * D.length ≤ P.length
  cut : isMin c = true
  ss : SS ltH D
  chk : ∀ x ∈ D, x.check = 0
theorem PreB.start {P : List UInt8} (h : 4 ≤ P.length) (hm : isMin (beNat (P.take 4) : Nat) = true) : PreB P (beNat (P.take 4) : Nat) [] :=
  ⟨by simp only [List.length_nil, Nat.mul_zero, Nat.add_zero, bytesH, List.flatMap_nil, List.append_nil]; exact (num4_beNat (by simp; omega)).symm, by simpa using h, hm, by simp [SS], by simp⟩
theorem PreB.good {P : List UInt8} {c : Int} {D : List HEnt} (h : PreB P c D) (hl : P.length ≤ 4 + 41 * D.length) : GoodB P c D :=
  ⟨by have := h.eq; rwa [List.take_of_length_le hl] at this, h.cut, h.ss, h.chk⟩
/-- the next entry, as bytes -/
def chunk (P : List UInt8) (k : Nat) : List UInt8 := (P.drop (4 + 41 * k)).take 41
theorem chunk_len {P : List UInt8} {k : Nat} (h : 4 + 41 * k + 41 ≤ P.length) : (chunk P k).length = 41 := by simp [chunk]; omega
theorem PreB.step {P : List UInt8} {c : Int} {D : List HEnt} (h : PreB P c D) (hl : 4 + 41 * D.length + 41 ≤ P.length) (ho : okX (chunk P D.length) = true) (hs : ∀ y ∈ D, ltH y (decX (chunk P D.length)) = true) : PreB P c (D ++ [decX (chunk P D.length)]) := by
  refine ⟨?_, by simp; omega, h.cut, ?_, ?_⟩
  · rw [List.length_append, List.length_singleton, show 4 + 41 * (D.length + 1) = (4 + 41 * D.length) + 41 by omega, List.take_add, h.eq, bytesH, bytesH, List.flatMap_append, List.flatMap_singleton, ent_dec (chunk_len hl) ho, List.append_assoc]; rfl
  · rw [SS, List.pairwise_append]
    exact ⟨h.ss, by simp, fun y hy z hz => by simp at hz; subst hz; exact hs y hy⟩
  · intro x hx
    rcases List.mem_append.1 hx with hx | hx
    · exact h.chk x hx
    · simp at hx; subst hx
      simp only [okX, Bool.and_eq_true, decide_eq_true_eq] at ho
      exact ho.2
/-- an encoding has a good next entry -/
theorem PreB.next {P : List UInt8} {c c' : Int} {D D' : List HEnt} (h : PreB P c D) (g : GoodB P c' D') (hl : 4 + 41 * D.length < P.length) : okX (chunk P D.length) = true ∧ ∀ y ∈ D, ltH y (decX (chunk P D.length)) = true := by
  have e1 : P = bytesH c D ++ P.drop (4 + 41 * D.length) := by rw [← h.eq, List.take_append_drop]
  have e2 : num4 c ++ (D.flatMap entH ++ P.drop (4 + 41 * D.length)) = num4 c' ++ D'.flatMap entH := by
    rw [← List.append_assoc]; exact e1.symm.trans g.eq
  obtain ⟨_, e3⟩ := head_inj h.cut g.cut e2
  obtain ⟨D2, e4, e5⟩ := ents_prefix h.chk g.chk e3
  cases D2 with
  | nil =>
    have := congrArg List.length e5
    simp at this; omega
  | cons x D2 =>
    have hx : x ∈ D' := by rw [e4]; simp
    have hch : chunk P D.length = entH x := by
      rw [chunk, e5, List.flatMap_cons, show 41 = (entH x).length from (entH_len x).symm, List.take_left]
    obtain ⟨d1, d2⟩ := dec_ent (g.chk x hx)
    rw [hch, d1]
    refine ⟨?_, fun y hy => ?_⟩
    · simp only [okX, Bool.and_eq_true, decide_eq_true_eq, d1]
      exact ⟨d2, g.chk x hx⟩
    · have := g.ss
      rw [e4, SS, List.pairwise_append] at this
      exact this.2.2 y hy x (by simp)
theorem GoodB.head {P : List UInt8} {c : Int} {D : List HEnt} (g : GoodB P c D) : 4 ≤ P.length ∧ (P.length - 4) % 41 = 0 ∧ (beNat (P.take 4) : Int) = c := by
  have hl := bytesH_len c D
  rw [← g.eq] at hl
  refine ⟨by omega, by omega, ?_⟩
  have : P.take 4 = num4 c := by rw [g.eq, bytesH, show 4 = (num4 c).length from rfl, List.take_left]
  have h2 := isMin_iff.1 g.cut
  rw [this]; exact beNat_num4 h2.1 (by omega)
theorem GoodB.of {n : Nat} {s : Hi} {L : List HEnt} (h : PInv n s L) : GoodB (bytesH s.cut L) s.cut L := ⟨rfl, isMin_iff.2 h.cut, h.ord.ss, h.chk⟩
theorem ltH_last {D : List HEnt} {z x : HEnt} (h : SS ltH D) (hz : D[D.length - 1]? = some z) : ltH z x = true → ∀ y ∈ D, ltH y x = true := fun hx y hy => by
  obtain ⟨j, hj, rfl⟩ := List.getElem_of_mem hy
  obtain ⟨h1, h2⟩ := List.getElem?_eq_some_iff.1 hz
  rcases Nat.lt_or_ge j (D.length - 1) with h3 | h3
  · have := List.pairwise_iff_getElem.1 h j (D.length - 1) hj h1 h3
    rw [h2] at this
    exact ltH_swo.trans _ _ _ this hx
  · have : j = D.length - 1 := by omega
    subst this
    rw [h2]; exact hx
end Go.Proofs.Ytobhhnfckhbeeaa
