/-
  Rows of chapter 41: the reference's and the program's, as cells; the relations.
-/
import Derived.Test.YtmjmichghfepkaaMapOps
import Derived.Test.YtmjmichghfepkaaTypes
import Derived.Test.YtmjmichghfepkaaByt
import Derived.Test.YtmjmichghfepkaaOrd
import Derived.Test.YtmjmichghfepkaaCmp
namespace Go.Proofs.Ytmjmichghfepkaa
open Go.Eng Go.RowKit Go.Sort

@[reducible] def ptr (p : Nat) : Value := .pointer (some ⟨p, 0, none⟩)
abbrev ekI (a : Vec 32) : Value := .agg (encV a).toArray
instance : KeyEnc Try.prog 37 ekI := KeyEnc.of (enc := encV) Try.lv37 (by decide) Try.underlying37 rfl (fun a => fitsN a.2) cellsEq_vec
def vz : Vec 32 := ⟨List.replicate 32 0, rfl⟩
def vz16 : Vec 16 := ⟨List.replicate 16 0, rfl⟩
/-- a row of the reference -/
structure RR where
  id : Vec 32
  au : Vec 16
  date : Int
  sup : Vec 32
  g : UInt8
deriving DecidableEq
def encR (x : RR) : List Value := x.id.1.map ub ++ (x.au.1.map ub ++ ([.int .i64 x.date] ++ (x.sup.1.map ub ++ [ub x.g])))
def rz : RR := ⟨vz, vz16, 0, vz, 0⟩
instance : Inhabited RR := ⟨rz⟩
instance {x : RR} : PartOf (encR x) 0 32 (x.id.1.map ub) := PartOf.mk' (c1 := []) rfl rfl (encV_len _)
instance {x : RR} : PartOf (encR x) 32 16 (x.au.1.map ub) := PartOf.mk' (c1 := x.id.1.map ub) rfl (encV_len _) (encV_len _)
instance {x : RR} : CellOf (encR x) 48 (.int .i64 x.date) := ⟨by simp [encR, x.id.2, x.au.2, List.getElem?_append]⟩
instance {x : RR} : PartOf (encR x) 49 32 (x.sup.1.map ub) := PartOf.mk' (c1 := x.id.1.map ub ++ (x.au.1.map ub ++ [.int .i64 x.date])) (c3 := [ub x.g]) (by simp [encR]) (by simp [x.id.2, x.au.2]) (encV_len _)
instance {x : RR} : CellOf (encR x) 81 (ub x.g) := ⟨by simp [encR, x.id.2, x.au.2, x.sup.2, List.getElem?_append]⟩
instance : Enc encR 82 := ⟨fun x => by simp [encR, x.id.2, x.au.2, x.sup.2], fun x u hu => by
  simp only [encR, List.mem_append, List.mem_cons, List.not_mem_nil, or_false] at hu
  rcases hu with hu | hu | rfl | hu | rfl
  · exact ub_all _ u hu
  · exact ub_all _ u hu
  · rfl
  · exact ub_all _ u hu
  · rfl⟩
theorem encR_fits (x : RR) : fitsAll (List.replicate 48 (lInt .u8) ++ ([lInt .i64] ++ List.replicate 33 (lInt .u8))) (encR x) = true := by
  have e : encR x = (x.id.1 ++ x.au.1).map ub ++ ([.int .i64 x.date] ++ (x.sup.1 ++ [x.g]).map ub) := by simp [encR]
  rw [e]
  exact fitsAll_mk (fitsN (by simp [x.id.2, x.au.2])) (fitsAll_mk rfl (fitsN (by simp [x.sup.2])))
theorem encR_eq {x y : RR} : cellsEq (encR x) (encR y) = decide (x = y) := by
  rw [encR, encR, cellsEq_app _ _ _ _ (by simp [x.id.2, y.id.2]), cellsEq_vec, cellsEq_app _ _ _ _ (by simp [x.au.2, y.au.2]), cellsEq_vec, cellsEq_app [.int .i64 x.date] _ [.int .i64 y.date] _ rfl, cellsEq_app (x.sup.1.map ub) _ (y.sup.1.map ub) _ (by simp [x.sup.2, y.sup.2]), cellsEq_vec, Bool.eq_iff_iff]
  cases x; cases y; simp [cellsEq, cellEq, ← UInt8.toNat_inj]; intros; omega
/-- strings -/
def encS (s : List UInt8) : List Value := [str s]
instance : Enc encS 1 := ⟨fun _ => rfl, fun o u hu => by simp [encS] at hu; subst hu; rfl⟩
instance {o : List UInt8} : CellOf (encS o) 0 (str o) := ⟨rfl⟩
/-- the groups of a row -/
def bitG (g : UInt8) (i : Nat) : Bool := g.toNat.testBit i
def nmG (i : Nat) : List UInt8 := [UInt8.ofNat (97 + i)]
def grpN (g : UInt8) : Nat → List (List UInt8)
  | 0 => []
  | k + 1 => grpN g k ++ if bitG g k then [nmG k] else []
def grp (g : UInt8) : List (List UInt8) := grpN g 8
/-- a row of the program: the reference's, and where its groups lie -/
structure RA where
  x : RR
  ad : Option Addr
  n : Nat
  c : Nat
@[reducible] def RA.gv (y : RA) : Value := .slice y.ad y.n y.c
def encA (y : RA) : List Value := y.x.id.1.map ub ++ (y.x.au.1.map ub ++ ([.int .i64 y.x.date, y.gv, .slice none 0 0] ++ y.x.sup.1.map ub))
abbrev evA (y : RA) : Value := .agg (encA y).toArray
def az : RA := ⟨rz, none, 0, 0⟩
instance : Inhabited RA := ⟨az⟩
instance {x : RA} : PartOf (encA x) 0 32 (x.x.id.1.map ub) := PartOf.mk' (c1 := []) rfl rfl (encV_len _)
instance {x : RA} : PartOf (encA x) 32 16 (x.x.au.1.map ub) := PartOf.mk' (c1 := x.x.id.1.map ub) rfl (encV_len _) (encV_len _)
instance {x : RA} : CellOf (encA x) 48 (.int .i64 x.x.date) := ⟨by simp [encA, x.x.id.2, x.x.au.2, List.getElem?_append]⟩
instance {x : RA} : CellOf (encA x) 49 x.gv := ⟨by simp [encA, x.x.id.2, x.x.au.2, List.getElem?_append]⟩
instance {x : RA} : CellOf (encA x) 50 (.slice none 0 0) := ⟨by simp [encA, x.x.id.2, x.x.au.2, List.getElem?_append]⟩
instance {x : RA} : PartOf (encA x) 51 32 (x.x.sup.1.map ub) := PartOf.mk' (c1 := x.x.id.1.map ub ++ (x.x.au.1.map ub ++ [.int .i64 x.x.date, x.gv, .slice none 0 0])) (c3 := []) (by simp [encA]) (by simp [x.x.id.2, x.x.au.2]) (encV_len _)
instance : Enc encA 83 := ⟨fun x => by simp [encA, x.x.id.2, x.x.au.2, x.x.sup.2], fun x u hu => by
  simp only [encA, List.mem_append, List.mem_cons, List.not_mem_nil, or_false] at hu
  rcases hu with hu | hu | (rfl | rfl | rfl) | hu
  · exact ub_all _ u hu
  · exact ub_all _ u hu
  · rfl
  · rfl
  · rfl
  · exact ub_all _ u hu⟩
instance : ZeroEnc Try.prog 42 evA az := ⟨Try.zr42⟩
/-- its groups lie where it says -/
def GOk (K : Kn) (y : RA) : Prop := KRow encS 1 K y.gv (grp y.x.g)
theorem GOk.mono {K K' : Kn} {y : RA} (h : GOk K y) (k : KLe K K') : GOk K' y := have : KRow encS 1 K y.gv (grp y.x.g) := h; (inferInstance : KRow encS 1 K' y.gv (grp y.x.g))
/-! the relations -/
def isMin (n : Int) : Bool := decide (0 ≤ n) && decide (n ≤ 105190559)
def subG (p x : UInt8) : Bool := decide (p &&& x = p)
def ltB (a b : RR) : Bool := decide (orI (cmpI b.date a.date) (cmpL a.id.1 b.id.1) < 0)
theorem ltB_iff {a b : RR} : ltB a b = true ↔ b.date < a.date ∨ (a.date = b.date ∧ ltV a.id b.id = true) := by
  unfold ltB orI cmpI ltV
  rw [decide_eq_true_eq, decide_eq_true_eq]
  by_cases h1 : b.date < a.date
  · simp [h1]
  · by_cases h2 : a.date < b.date
    · simp [h1, h2]; omega
    · have : a.date = b.date := by omega
      simp [this]
theorem ltB_false {a b : RR} : ltB a b = false ↔ a.date < b.date ∨ (a.date = b.date ∧ ltV a.id b.id = false) := by
  rw [Bool.eq_false_iff, Ne, ltB_iff]
  cases ltV a.id b.id <;> simp <;> omega
theorem ltB_swo : SWO ltB := ⟨fun x => ltB_false.2 (.inr ⟨rfl, ltV_swo.irrefl _⟩), fun x y z h1 h2 => by
  rw [ltB_iff] at *
  rcases h1 with h1 | ⟨h1, h1'⟩
  · rcases h2 with h2 | ⟨h2, _⟩
    · exact .inl (by omega)
    · exact .inl (by omega)
  · rcases h2 with h2 | ⟨h2, h2'⟩
    · exact .inl (by omega)
    · exact .inr ⟨by omega, ltV_swo.trans _ _ _ h1' h2'⟩, fun x y z h1 h2 => by
  rw [ltB_false] at *
  rcases h1 with h1 | ⟨h1, h1'⟩
  · rcases h2 with h2 | ⟨h2, _⟩
    · exact .inl (by omega)
    · exact .inl (by omega)
  · rcases h2 with h2 | ⟨h2, h2'⟩
    · exact .inl (by omega)
    · exact .inr ⟨by omega, ltV_swo.ntrans _ _ _ h1' h2'⟩⟩
def valid (t s : RR) : Bool := decide (s.sup ≠ vz) && decide (s.sup = t.id) && decide (t.id ≠ s.id) && decide (t.au = s.au) && decide (t.date ≤ s.date) && subG t.g s.g
def outd (x y : RR) : Bool := decide (x.id ≠ y.id) && decide (x.sup ≠ vz) && decide (x.sup ≠ x.id) && decide (x.sup = y.sup) && decide (x.au = y.au) && subG y.g x.g && ltB x y
theorem valid_iff {t s : RR} : valid t s = true ↔ s.sup ≠ vz ∧ s.sup = t.id ∧ t.id ≠ s.id ∧ t.au = s.au ∧ t.date ≤ s.date ∧ subG t.g s.g = true := by
  simp [valid, and_assoc]
theorem outd_iff {x y : RR} : outd x y = true ↔ x.id ≠ y.id ∧ x.sup ≠ vz ∧ x.sup ≠ x.id ∧ x.sup = y.sup ∧ x.au = y.au ∧ subG y.g x.g = true ∧ ltB x y = true := by
  simp [outd, and_assoc]
/-! groups -/
theorem mem_grpN {g : UInt8} {s : List UInt8} : ∀ {k : Nat}, s ∈ grpN g k ↔ ∃ i, i < k ∧ bitG g i = true ∧ s = nmG i
  | 0 => by simp [grpN]
  | k + 1 => by
    rw [grpN, List.mem_append, mem_grpN]
    constructor
    · rintro (⟨i, h1, h2, h3⟩ | h)
      · exact ⟨i, by omega, h2, h3⟩
      · split at h
        · rename_i hb; simp at h; exact ⟨k, by omega, hb, h⟩
        · cases h
    · rintro ⟨i, h1, h2, h3⟩
      rcases Nat.lt_or_ge i k with h | h
      · exact .inl ⟨i, h, h2, h3⟩
      · obtain rfl : i = k := by omega
        right; rw [if_pos h2, h3]; simp
theorem nmG_inj {i j : Nat} (hi : i < 8) (hj : j < 8) (h : nmG i = nmG j) : i = j := by
  simp only [nmG, List.cons.injEq, and_true] at h
  have := congrArg UInt8.toNat h
  rw [UInt8.toNat_ofNat', UInt8.toNat_ofNat'] at this
  omega
theorem mem_grp {g : UInt8} {i : Nat} (hi : i < 8) : nmG i ∈ grp g ↔ bitG g i = true := by
  rw [grp, mem_grpN]
  constructor
  · rintro ⟨j, h1, h2, h3⟩
    rw [nmG_inj hi h1 h3]; exact h2
  · exact fun h => ⟨i, hi, h, rfl⟩
theorem bits_eq {a b : UInt8} (h : ∀ i, i < 8 → bitG a i = bitG b i) : a = b := by
  apply UInt8.toNat_inj.1
  apply Nat.eq_of_testBit_eq
  intro i
  rcases Nat.lt_or_ge i 8 with hi | hi
  · exact h i hi
  · have ha := a.toNat_lt
    have hb := b.toNat_lt
    have hp : 2 ^ 8 ≤ 2 ^ i := Nat.pow_le_pow_right (by decide) hi
    rw [Nat.testBit_lt_two_pow (by omega), Nat.testBit_lt_two_pow (by omega)]
theorem subG_iff {p x : UInt8} : subG p x = true ↔ ∀ i, i < 8 → bitG p i = true → bitG x i = true := by
  unfold subG
  rw [decide_eq_true_eq]
  have hb : ∀ i, bitG (p &&& x) i = (bitG p i && bitG x i) := fun i => by simp [bitG, UInt8.toNat_and, Nat.testBit_and]
  constructor
  · intro h i _ h1
    have := hb i
    rw [h, h1] at this
    simpa using this.symm
  · intro h
    apply bits_eq
    intro i hi
    rw [hb]
    cases h1 : bitG p i with
    | false => rfl
    | true => rw [h i hi h1]; rfl
theorem subG_grp {p x : UInt8} : (∀ s ∈ grp p, s ∈ grp x) ↔ subG p x = true := by
  rw [subG_iff]
  constructor
  · intro h i hi h1
    exact (mem_grp hi).1 (h _ ((mem_grp hi).2 h1))
  · intro h s hs
    obtain ⟨i, h1, h2, rfl⟩ := mem_grpN.1 hs
    exact (mem_grp h1).2 (h i h1 h2)
theorem grp_inj {a b : UInt8} (h : grp a = grp b) : a = b := by
  apply bits_eq
  intro i hi
  rw [Bool.eq_iff_iff, ← mem_grp hi, ← mem_grp hi, h]
theorem grp_len (g : UInt8) : (grp g).length ≤ 8 := by
  have : ∀ k, (grpN g k).length ≤ k := by
    intro k
    induction k with
    | zero => simp [grpN]
    | succ k ih => rw [grpN, List.length_append]; split <;> simp <;> omega
  exact this 8
/-- x.Groups>>i&1 == 1 -/
theorem bit_op {g : UInt8} {i : Nat} (hi : i < 8) : decide (IntKind.u8.wrap ((BitVec.ofInt IntKind.u8.bits ((g.toNat : Int).fdiv (2 ^ (min (i : Int).toNat IntKind.u8.bits))) &&& BitVec.ofInt IntKind.u8.bits 1).toNat : Int) = 1) = bitG g i := by
  have e1 : min (i : Int).toNat IntKind.u8.bits = i := by
    rw [Int.toNat_natCast]; exact Nat.min_eq_left (by show i ≤ 8; omega)
  have hg := g.toNat_lt
  have hp : (0 : Int) < 2 ^ i := Int.pow_pos (by decide)
  have e2 : (g.toNat : Int).fdiv (2 ^ i) = ((g.toNat / 2 ^ i : Nat) : Int) := by
    rw [Int.fdiv_eq_ediv_of_nonneg _ (Int.le_of_lt hp)]; simp
  have hle : g.toNat / 2 ^ i ≤ g.toNat := Nat.div_le_self _ _
  rw [e1, e2, BitVec.ofInt_natCast, show IntKind.u8.bits = 8 from rfl, show BitVec.ofInt 8 1 = BitVec.ofNat 8 1 from rfl, BitVec.toNat_and, BitVec.toNat_ofNat, BitVec.toNat_ofNat, Nat.mod_eq_of_lt (by omega), show 1 % 2 ^ 8 = 1 from rfl, Nat.and_one_is_mod, IntKind.wrap_u8, bitG, Nat.testBit_eq_decide_div_mod_eq, decide_eq_decide]
  omega
end Go.Proofs.Ytmjmichghfepkaa
