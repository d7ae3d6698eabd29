/-
  An author who rolls over each key at most once: how the judgments of this author's articles change.
-/
import Derived.Test.YtbkgibgomohdjaaDoorMove
namespace Go.Proofs.YtbkgibgomohdjaaDoor
open Go.Eng Go.RowKit Go.Sort
def own0 (l : UInt8) : Mv := ⟨1, 0, 1, 2, l, 13, 255⟩
def own1 (l : UInt8) : Mv := ⟨1, 1, 2, 3, l, 14, 255⟩
def own2 (l : UInt8) : Mv := ⟨1, 2, 3, 4, l, 15, 255⟩
def hA : Vec 16 := ofP (pubk 1)
def ro0 (l : UInt8) : RO := ⟨idn 13, hA, 0, pubk 1, ((l.toNat % 4 : Nat) : Int), pubk 2⟩
def ro1 (l : UInt8) : RO := ⟨idn 14, hA, 1, pubk 2, ((l.toNat % 8 : Nat) : Int), pubk 3⟩
def ro2 (l : UInt8) : RO := ⟨idn 15, hA, 2, pubk 3, ((l.toNat % 2 : Nat) : Int), pubk 4⟩
theorem rk0 (l : UInt8) : rkR (own0 l) = ro0 l := rfl
theorem rk1 (l : UInt8) : rkR (own1 l) = ro1 l := rfl
theorem rk2 (l : UInt8) : rkR (own2 l) = ro2 l := by simp [rkR, own2, rkB, ro2, rkN, rkP, rkH, hA]
/-- of the author's roll-overs the list has those that the marks tell -/
structure HonS (l0 l1 l2 : UInt8) (b0 b1 b2 : Bool) (L : List RO) : Prop where
  ok : LOk L
  own : ∀ r, r.au = hA → (r ∈ L ↔ (b0 = true ∧ r = ro0 l0) ∨ (b1 = true ∧ r = ro1 l1) ∨ (b2 = true ∧ r = ro2 l2))
  ids : ∀ r ∈ L, r.au ≠ hA → ∃ k, k < 13 ∧ r.id = idn k
variable {l0 l1 l2 : UInt8} {b0 b1 b2 : Bool} {L : List RO}
def kEnd (b : Bool) (n : Int) (p : PK) (l : Int) (id : Vec 32) : KY := if b then ⟨n, p, l, id⟩ else ⟨n, p, -1, kvz⟩
def honC (l0 l1 l2 : UInt8) (b0 b1 b2 : Bool) : List KY :=
  if b0 = true then (ky0 l0) :: (if b1 = true then ky1 l1 :: (if b2 = true then [ky2 l2, ⟨3, pubk 4, -1, kvz⟩] else [⟨2, pubk 3, -1, kvz⟩]) else [⟨1, pubk 2, -1, kvz⟩]) else []
where
  ky0 (l : UInt8) : KY := ⟨0, pubk 1, (ro0 l).leaf, idn 13⟩
  ky1 (l : UInt8) : KY := ⟨1, pubk 2, (ro1 l).leaf, idn 14⟩
  ky2 (l : UInt8) : KY := ⟨2, pubk 3, (ro2 l).leaf, idn 15⟩
theorem least_one {S : List RO} {e : RO} (h : ∀ z, z ∈ S ↔ z = e) : Least ltO S e := ⟨(h e).2 rfl, fun y hy => by rw [(h y).1 hy]; exact ltO_swo.irrefl _⟩
theorem none_of {α : Type} {S : List α} (h : ∀ z, z ∉ S) : S = [] := by
  cases S with
  | nil => rfl
  | cons y l => exact absurd (by simp) (h y)
theorem HonS.e0 (h : HonS l0 l1 l2 b0 b1 b2 L) : ∀ z, z ∈ ends L hA 0 (pubk 1) ↔ b0 = true ∧ z = ro0 l0 := fun z => by
  rw [mem_ends]
  constructor
  · rintro ⟨h1, h2, h3, _⟩
    rcases (h.own z h2).1 h1 with g | ⟨_, rfl⟩ | ⟨_, rfl⟩
    · exact g
    · simp [ro0, ro1, ro2] at h3
    · simp [ro0, ro1, ro2] at h3
  · rintro ⟨hb, rfl⟩; exact ⟨(h.own _ rfl).2 (.inl ⟨hb, rfl⟩), rfl, rfl, rfl⟩
theorem HonS.e1 (h : HonS l0 l1 l2 b0 b1 b2 L) : ∀ z, z ∈ ends L hA 1 (pubk 2) ↔ b1 = true ∧ z = ro1 l1 := fun z => by
  rw [mem_ends]
  constructor
  · rintro ⟨h1, h2, h3, _⟩
    rcases (h.own z h2).1 h1 with ⟨_, rfl⟩ | g | ⟨_, rfl⟩
    · simp [ro0, ro1, ro2] at h3
    · exact g
    · simp [ro0, ro1, ro2] at h3
  · rintro ⟨hb, rfl⟩; exact ⟨(h.own _ rfl).2 (.inr (.inl ⟨hb, rfl⟩)), rfl, rfl, rfl⟩
theorem HonS.e2 (h : HonS l0 l1 l2 b0 b1 b2 L) : ∀ z, z ∈ ends L hA 2 (pubk 3) ↔ b2 = true ∧ z = ro2 l2 := fun z => by
  rw [mem_ends]
  constructor
  · rintro ⟨h1, h2, h3, _⟩
    rcases (h.own z h2).1 h1 with ⟨_, rfl⟩ | ⟨_, rfl⟩ | g
    · simp [ro0, ro1, ro2] at h3
    · simp [ro0, ro1, ro2] at h3
    · exact g
  · rintro ⟨hb, rfl⟩; exact ⟨(h.own _ rfl).2 (.inr (.inr ⟨hb, rfl⟩)), rfl, rfl, rfl⟩
theorem HonS.e3 (h : HonS l0 l1 l2 b0 b1 b2 L) : ends L hA 3 (pubk 4) = [] := none_of fun z hz => by
  obtain ⟨h1, h2, h3, _⟩ := mem_ends.1 hz
  rcases (h.own z h2).1 h1 with ⟨_, rfl⟩ | ⟨_, rfl⟩ | ⟨_, rfl⟩ <;> simp [ro0, ro1, ro2] at h3
theorem HonS.f (h : HonS l0 l1 l2 b0 b1 b2 L) : ∀ p, p ∈ firsts L hA ↔ b0 = true ∧ p = pubk 1 := fun p => by
  rw [mem_firsts]
  constructor
  · rintro ⟨r, h1, h2, h3, rfl⟩
    rcases (h.own r h2).1 h1 with ⟨g, rfl⟩ | ⟨_, rfl⟩ | ⟨_, rfl⟩
    · exact ⟨g, rfl⟩
    · simp [ro0, ro1, ro2] at h3
    · simp [ro0, ro1, ro2] at h3
  · rintro ⟨hb, rfl⟩; exact ⟨ro0 l0, (h.own _ rfl).2 (.inl ⟨hb, rfl⟩), rfl, rfl, rfl⟩
theorem HonS.chain (h : HonS l0 l1 l2 b0 b1 b2 L) : ChA L hA (honC l0 l1 l2 b0 b1 b2) := by
  unfold honC
  cases b0 with
  | false => exact .inl ⟨none_of fun p hp => (by have := ((h.f p).1 hp).1; cases this), rfl⟩
  | true =>
    refine .inr ⟨pubk 1, ⟨(h.f _).2 ⟨rfl, rfl⟩, fun y hy => by rw [((h.f y).1 hy).2]; exact ltP_swo.irrefl _⟩, ?_⟩
    rw [if_pos rfl]
    refine .cons (e := ro0 l0) (least_one fun z => by rw [h.e0]; simp) ?_
    show ChR L hA 1 (pubk 2) _
    cases b1 with
    | false => exact .last (none_of fun z hz => by have := ((h.e1 z).1 hz).1; cases this)
    | true =>
      rw [if_pos rfl]
      refine .cons (e := ro1 l1) (least_one fun z => by rw [h.e1]; simp) ?_
      show ChR L hA 2 (pubk 3) _
      cases b2 with
      | false => exact .last (none_of fun z hz => by have := ((h.e2 z).1 hz).1; cases this)
      | true =>
        rw [if_pos rfl]
        refine .cons (e := ro2 l2) (least_one fun z => by rw [h.e2]; simp) ?_
        exact .last h.e3
theorem HonS.start : HonS l0 l1 l2 false false false [] := ⟨LOk.nil, by simp, by simp⟩
/-- a roll-over of another author -/
theorem HonS.other (h : HonS l0 l1 l2 b0 b1 b2 L) {m : Mv} (ha : (rkR m).au ≠ hA) (hi : m.id.toNat < 13) : HonS l0 l1 l2 b0 b1 b2 (stepL L m) := by
  refine ⟨h.ok.add _ _ _, fun r hr => ?_, fun r hr hne => ?_⟩
  · rw [← h.own r hr, step_mem]
    constructor
    · rintro (g | ⟨_, _, rfl⟩)
      · exact g
      · exact absurd hr ha
    · exact .inl
  · rcases step_mem.1 hr with g | ⟨_, _, rfl⟩
    · exact h.ids r g hne
    · exact ⟨m.id.toNat, hi, by rw [rkR_id]; congr 1; omega⟩
theorem HonS.hasId (h : HonS l0 l1 l2 b0 b1 b2 L) {k : Nat} (hk : 13 ≤ k) (hk2 : k < 256) : hasR L (idn k) = true ↔ (b0 = true ∧ k = 13) ∨ (b1 = true ∧ k = 14) ∨ (b2 = true ∧ k = 15) := by
  rw [hasR_iff, List.mem_map]
  constructor
  · rintro ⟨r, hr, he⟩
    by_cases ha : r.au = hA
    · rcases (h.own r ha).1 hr with ⟨g, rfl⟩ | ⟨g, rfl⟩ | ⟨g, rfl⟩
      · exact .inl ⟨g, (idn_inj (by omega) hk2 he).symm⟩
      · exact .inr (.inl ⟨g, (idn_inj (by omega) hk2 he).symm⟩)
      · exact .inr (.inr ⟨g, (idn_inj (by omega) hk2 he).symm⟩)
    · obtain ⟨j, hj, hji⟩ := h.ids r hr ha
      rw [hji] at he
      have := idn_inj (by omega) hk2 he
      omega
  · rintro (⟨g, rfl⟩ | ⟨g, rfl⟩ | ⟨g, rfl⟩)
    · exact ⟨ro0 l0, (h.own _ rfl).2 (.inl ⟨g, rfl⟩), rfl⟩
    · exact ⟨ro1 l1, (h.own _ rfl).2 (.inr (.inl ⟨g, rfl⟩)), rfl⟩
    · exact ⟨ro2 l2, (h.own _ rfl).2 (.inr (.inr ⟨g, rfl⟩)), rfl⟩
theorem ok0 (l : UInt8) : okM (own0 l) := by
  have := Nat.mod_lt l.toNat (y := 4) (by decide)
  unfold okM addE
  rw [rk0, show rkK (own0 l) = 5 from rfl, show rkT (own0 l) = 1 from rfl]
  have hb : keyBad (ro0 l) = false := by
    unfold keyBad
    rw [show (2 : Int) ^ (ro0 l).pu.h.toNat = 4 from rfl, show fine (ro0 l).pu = true from rfl, show fine (ro0 l).nw = true from rfl, decide_eq_false (show (ro0 l).pu ≠ (ro0 l).nw from (by decide : pubk 1 ≠ pubk 2)), decide_eq_false (show ¬ (ro0 l).leaf < 0 from by show ¬ ((l.toNat % 4 : Nat) : Int) < 0; omega), decide_eq_false (show ¬ (4 : Int) ≤ (ro0 l).leaf from by show ¬ (4 : Int) ≤ ((l.toNat % 4 : Nat) : Int); omega)]
    rfl
  rw [hb, show hasR [] (ro0 l).id = false from rfl]
  simp [ro0, hA]
theorem ok1 (l : UInt8) : okM (own1 l) := by
  have := Nat.mod_lt l.toNat (y := 8) (by decide)
  unfold okM addE
  rw [rk1, show rkK (own1 l) = 5 from rfl, show rkT (own1 l) = 2 from rfl]
  have hb : keyBad (ro1 l) = false := by
    unfold keyBad
    rw [show (2 : Int) ^ (ro1 l).pu.h.toNat = 8 from rfl, show fine (ro1 l).pu = true from rfl, show fine (ro1 l).nw = true from rfl, decide_eq_false (show (ro1 l).pu ≠ (ro1 l).nw from (by decide : pubk 2 ≠ pubk 3)), decide_eq_false (show ¬ (ro1 l).leaf < 0 from by show ¬ ((l.toNat % 8 : Nat) : Int) < 0; omega), decide_eq_false (show ¬ (8 : Int) ≤ (ro1 l).leaf from by show ¬ (8 : Int) ≤ ((l.toNat % 8 : Nat) : Int); omega)]
    rfl
  rw [hb, show hasR [] (ro1 l).id = false from rfl]
  simp [ro1]
theorem ok2 (l : UInt8) : okM (own2 l) := by
  have := Nat.mod_lt l.toNat (y := 2) (by decide)
  unfold okM addE
  rw [rk2, show rkK (own2 l) = 5 from rfl, show rkT (own2 l) = 3 from rfl]
  have hb : keyBad (ro2 l) = false := by
    unfold keyBad
    rw [show (2 : Int) ^ (ro2 l).pu.h.toNat = 2 from rfl, show fine (ro2 l).pu = true from rfl, show fine (ro2 l).nw = true from rfl, decide_eq_false (show (ro2 l).pu ≠ (ro2 l).nw from (by decide : pubk 3 ≠ pubk 4)), decide_eq_false (show ¬ (ro2 l).leaf < 0 from by show ¬ ((l.toNat % 2 : Nat) : Int) < 0; omega), decide_eq_false (show ¬ (2 : Int) ≤ (ro2 l).leaf from by show ¬ (2 : Int) ≤ ((l.toNat % 2 : Nat) : Int); omega)]
    rfl
  rw [hb, show hasR [] (ro2 l).id = false from rfl]
  simp [ro2]
theorem HonS.step0 (h : HonS l0 l1 l2 b0 b1 b2 L) : HonS l0 l1 l2 true b1 b2 (stepL L (own0 l0)) := by
  have hid := h.hasId (k := 13) (by omega) (by omega)
  refine ⟨h.ok.add _ _ _, fun r hr => ?_, fun r hr hne => ?_⟩
  · rw [step_mem, h.own r hr, rk0]
    cases b0 with
    | true =>
      constructor
      · rintro (g | ⟨_, _, g⟩)
        · exact g
        · exact .inl ⟨rfl, g⟩
      · exact .inl
    | false =>
      have hn : hasR L (ro0 l0).id = false := by
        cases hc : hasR L (ro0 l0).id with
        | false => rfl
        | true => have := hid.1 hc; simp at this
      rw [hn]; simp [ok0 l0]
      constructor
      · rintro (g | g) <;> simp [g]
      · rintro (g | g) <;> simp [g]
  · rcases step_mem.1 hr with g | ⟨_, _, rfl⟩
    · exact h.ids r g hne
    · exact absurd rfl hne
theorem HonS.step1 (h : HonS l0 l1 l2 b0 b1 b2 L) : HonS l0 l1 l2 b0 true b2 (stepL L (own1 l1)) := by
  have hid := h.hasId (k := 14) (by omega) (by omega)
  refine ⟨h.ok.add _ _ _, fun r hr => ?_, fun r hr hne => ?_⟩
  · rw [step_mem, h.own r hr, rk1]
    cases b1 with
    | true =>
      constructor
      · rintro (g | ⟨_, _, g⟩)
        · exact g
        · exact .inr (.inl ⟨rfl, g⟩)
      · exact .inl
    | false =>
      have hn : hasR L (ro1 l1).id = false := by
        cases hc : hasR L (ro1 l1).id with
        | false => rfl
        | true => have := hid.1 hc; simp at this
      rw [hn]; simp [ok1 l1]
      constructor
      · rintro ((g | g) | g) <;> simp [g]
      · rintro (g | g | g) <;> simp [g]
  · rcases step_mem.1 hr with g | ⟨_, _, rfl⟩
    · exact h.ids r g hne
    · exact absurd rfl hne
theorem HonS.step2 (h : HonS l0 l1 l2 b0 b1 b2 L) : HonS l0 l1 l2 b0 b1 true (stepL L (own2 l2)) := by
  have hid := h.hasId (k := 15) (by omega) (by omega)
  refine ⟨h.ok.add _ _ _, fun r hr => ?_, fun r hr hne => ?_⟩
  · rw [step_mem, h.own r hr, rk2]
    cases b2 with
    | true =>
      constructor
      · rintro (g | ⟨_, _, g⟩)
        · exact g
        · exact .inr (.inr ⟨rfl, g⟩)
      · exact .inl
    | false =>
      have hn : hasR L (ro2 l2).id = false := by
        cases hc : hasR L (ro2 l2).id with
        | false => rfl
        | true => have := hid.1 hc; simp at this
      rw [hn]; simp [ok2 l2]
      constructor
      · rintro ((g | g) | g) <;> simp [g]
      · rintro (g | g | g) <;> simp [g]
  · rcases step_mem.1 hr with g | ⟨_, _, rfl⟩
    · exact h.ids r g hne
    · rw [rk2] at hne; exact absurd rfl hne
/-- how a judgment may change -/
def MayTurn (c : List KY) (n leaf now next : Int) : Prop := next = now ∨ now = 1 ∨ (now = 0 ∧ next = 3 ∧ ∃ k, 0 ≤ n ∧ n < c.length ∧ c[n.toNat]? = some k ∧ k.lim ≤ leaf)
/-- what is known of the key with a number -/
def knB (b0 b1 b2 : Bool) : Nat → Bool
  | 0 => b0
  | 1 => b0
  | 2 => b0 && b1
  | _ => b0 && b1 && b2
def lmB (l0 l1 l2 : UInt8) (b0 b1 b2 : Bool) : Nat → Option (Int × Vec 32)
  | 0 => if b0 then some ((ro0 l0).leaf, idn 13) else none
  | 1 => if b1 then some ((ro1 l1).leaf, idn 14) else none
  | 2 => if b2 then some ((ro2 l2).leaf, idn 15) else none
  | _ => none
def jvK (n : Nat) (q : Option (Int × Vec 32)) (p : PK) (leaf : Int) (id : Vec 32) : Int :=
  if pubk (n + 1) ≠ p then 2 else match q with | none => 0 | some (l, x) => if l < leaf ∨ (leaf = l ∧ id ≠ x) then 3 else 0
theorem honC_at {n : Nat} (hn : n < 4) : (honC l0 l1 l2 b0 b1 b2)[n]? = if knB b0 b1 b2 n then some ⟨n, pubk (n + 1), ((lmB l0 l1 l2 b0 b1 b2 n).map (·.1)).getD (-1), ((lmB l0 l1 l2 b0 b1 b2 n).map (·.2)).getD kvz⟩ else none := by
  match n, hn with
  | 0, _ => cases b0 <;> cases b1 <;> cases b2 <;> rfl
  | 1, _ => cases b0 <;> cases b1 <;> cases b2 <;> rfl
  | 2, _ => cases b0 <;> cases b1 <;> cases b2 <;> rfl
  | 3, _ => cases b0 <;> cases b1 <;> cases b2 <;> rfl
theorem if_some {b : Bool} {x q : Int × Vec 32} (h : (if b = true then some x else none) = some q) (hx : 0 ≤ x.1) : 0 ≤ q.1 := by
  cases b
  · cases h
  · have := Option.some.inj h; rw [← this]; exact hx
theorem if_mono {b b' : Bool} {x q : Int × Vec 32} (g : b = true → b' = true) (h : (if b = true then some x else none) = some q) : (if b' = true then some x else none) = some q := by
  cases b
  · cases h
  · rw [g rfl]; exact h
theorem lmB_nn {n : Nat} {q : Int × Vec 32} (h : lmB l0 l1 l2 b0 b1 b2 n = some q) : 0 ≤ q.1 := by
  have e0 : (0 : Int) ≤ (ro0 l0).leaf := Int.natCast_nonneg _
  have e1 : (0 : Int) ≤ (ro1 l1).leaf := Int.natCast_nonneg _
  have e2 : (0 : Int) ≤ (ro2 l2).leaf := Int.natCast_nonneg _
  match n, h with
  | 0, h => simp only [lmB] at h; exact if_some h e0
  | 1, h => simp only [lmB] at h; exact if_some h e1
  | 2, h => simp only [lmB] at h; exact if_some h e2
  | n + 3, h => simp [lmB] at h
theorem judge_hon {n : Nat} (hn : n < 4) {p : PK} (hp : isFam p) {leaf : Int} {id : Vec 32} : judge (honC l0 l1 l2 b0 b1 b2) hA n p leaf id = if knB b0 b1 b2 n then jvK n (lmB l0 l1 l2 b0 b1 b2 n) p leaf id else if n ≠ 0 then 1 else if p = pubk 1 then 0 else 2 := by
  have hat := honC_at (l0 := l0) (l1 := l1) (l2 := l2) (b0 := b0) (b1 := b1) (b2 := b2) hn
  unfold judge
  cases hk : knB b0 b1 b2 n with
  | true =>
    rw [hk, if_pos rfl] at hat
    have hl := (List.getElem?_eq_some_iff.1 hat).1
    rw [if_pos ⟨by omega, by omega⟩, Int.toNat_natCast, hat, if_pos rfl]
    simp only [jvK]
    split
    · rfl
    · cases hq : lmB l0 l1 l2 b0 b1 b2 n with
      | none => simp
      | some q =>
        have := lmB_nn hq
        simp only [Option.map_some, Option.getD_some]
        by_cases hc : q.1 < leaf ∨ (leaf = q.1 ∧ id ≠ q.2)
        · rw [if_pos ⟨by omega, hc⟩, if_pos hc]
        · rw [if_neg (fun h => hc h.2), if_neg hc]
  | false =>
    rw [hk] at hat
    simp only [Bool.false_eq_true, if_false] at hat ⊢
    have hl := List.getElem?_eq_none_iff.1 hat
    rw [if_neg (by omega)]
    by_cases h0 : n = 0
    · subst h0
      simp only [ne_eq, not_true, if_false]
      have hz : ¬ ((0 : Nat) : Int) ≠ 0 := by decide
      rw [if_neg hz]
      by_cases hpp : p = pubk 1
      · rw [if_pos hpp, if_pos ⟨by rw [hpp]; rfl, by rw [hpp]; rfl⟩]
      · rw [if_neg hpp, if_neg (fun h => hpp (ofP_inj hp (pubk_fam 1) h.2))]
    · rw [if_pos (by omega), if_pos h0]
/-- more roll-overs of the author -/
theorem hon_turn {b0' b1' b2' : Bool} (g0 : b0 = true → b0' = true) (g1 : b1 = true → b1' = true) (g2 : b2 = true → b2' = true) {n : Nat} (hn : n < 4) {p : PK} (hp : isFam p) {leaf : Int} {id : Vec 32} :
    MayTurn (honC l0 l1 l2 b0' b1' b2') n leaf (judge (honC l0 l1 l2 b0 b1 b2) hA n p leaf id) (judge (honC l0 l1 l2 b0' b1' b2') hA n p leaf id) := by
  rw [judge_hon hn hp, judge_hon hn hp]
  have hkn : knB b0 b1 b2 n = true → knB b0' b1' b2' n = true := by
    match n, hn with
    | 0, _ => exact g0
    | 1, _ => exact g0
    | 2, _ => simp only [knB, Bool.and_eq_true]; exact fun h => ⟨g0 h.1, g1 h.2⟩
    | 3, _ => simp only [knB, Bool.and_eq_true]; exact fun h => ⟨⟨g0 h.1.1, g1 h.1.2⟩, g2 h.2⟩
  have hlm : ∀ q, lmB l0 l1 l2 b0 b1 b2 n = some q → lmB l0 l1 l2 b0' b1' b2' n = some q := by
    intro q
    match n, hn with
    | 0, _ => exact if_mono g0
    | 1, _ => exact if_mono g1
    | 2, _ => exact if_mono g2
    | 3, _ => simp [lmB]
  have hat := honC_at (l0 := l0) (l1 := l1) (l2 := l2) (b0 := b0') (b1 := b1') (b2 := b2') hn
  have hlast : knB b0' b1' b2' n = true → jvK n (lmB l0 l1 l2 b0' b1' b2' n) p leaf id = 3 → ∃ k, (0 : Int) ≤ n ∧ (n : Int) < (honC l0 l1 l2 b0' b1' b2').length ∧ (honC l0 l1 l2 b0' b1' b2')[(n : Int).toNat]? = some k ∧ k.lim ≤ leaf := fun hk h3 => by
    rw [hk, if_pos rfl] at hat
    have hl := (List.getElem?_eq_some_iff.1 hat).1
    refine ⟨_, by omega, by omega, by rw [Int.toNat_natCast]; exact hat, ?_⟩
    simp only [jvK] at h3
    split at h3
    · simp at h3
    · split at h3
      · simp at h3
      · rename_i l x hq
        rw [hq]
        simp only [Option.map_some, Option.getD_some]
        split at h3
        · omega
        · simp at h3
  cases hk : knB b0 b1 b2 n with
  | true =>
    have hk' := hkn hk
    rw [hk', if_pos rfl, if_pos rfl]
    cases hq : lmB l0 l1 l2 b0 b1 b2 n with
    | some q => rw [hlm q hq]; exact .inl rfl
    | none =>
      by_cases hpp : pubk (n + 1) ≠ p
      · left; simp only [jvK]; rw [if_pos hpp, if_pos hpp]
      · have hnow : jvK n none p leaf id = 0 := by simp only [jvK]; rw [if_neg hpp]
        rw [hnow]
        have hnx : jvK n (lmB l0 l1 l2 b0' b1' b2' n) p leaf id = 0 ∨ jvK n (lmB l0 l1 l2 b0' b1' b2' n) p leaf id = 3 := by
          simp only [jvK]; rw [if_neg hpp]
          split
          · exact .inl rfl
          · split
            · exact .inr rfl
            · exact .inl rfl
        rcases hnx with h | h
        · exact .inl h
        · exact .inr (.inr ⟨rfl, h, hlast hk' h⟩)
  | false =>
    simp only [Bool.false_eq_true, if_false]
    by_cases h0 : n = 0
    · subst h0
      simp only [ne_eq, not_true, if_false]
      cases hk' : knB b0' b1' b2' 0 with
      | false => left; simp
      | true =>
        simp only [if_true]
        by_cases hpp : p = pubk 1
        · rw [if_pos hpp]
          have hnx : jvK 0 (lmB l0 l1 l2 b0' b1' b2' 0) p leaf id = 0 ∨ jvK 0 (lmB l0 l1 l2 b0' b1' b2' 0) p leaf id = 3 := by
            simp only [jvK]; rw [if_neg (by rw [hpp]; simp)]
            split
            · exact .inl rfl
            · split
              · exact .inr rfl
              · exact .inl rfl
          rcases hnx with h | h
          · exact .inl h
          · exact .inr (.inr ⟨rfl, h, hlast hk' h⟩)
        · rw [if_neg hpp]
          left
          simp only [jvK]; rw [if_pos (fun e => hpp e.symm)]
    · right; left; rw [if_pos h0]
end Go.Proofs.YtbkgibgomohdjaaDoor
