/-
  Orders, plainly: bytes compared; lists in strictly ascending order; what is compacted, merged, inserted.
-/
import Derived.Test.YtifghjeapfijkaaGreatDoorSortE
namespace Go.Eng
open Go.RowKit Go.Sort

theorem cmpL_refl : ∀ (l : List UInt8), cmpL l l = 0
  | [] => rfl
  | x :: l => by simp [cmpL, UInt8.lt_irrefl, cmpL_refl l]
theorem u8_tri (x y : UInt8) (h1 : ¬ x < y) (h2 : ¬ y < x) : x = y := by
  rw [UInt8.lt_iff_toNat_lt] at h1 h2
  exact UInt8.toNat_inj.1 (by omega)
theorem u8_asym {x y : UInt8} (h : x < y) : ¬ y < x := by
  rw [UInt8.lt_iff_toNat_lt] at h ⊢; omega
theorem cmpL_neg : ∀ (a b : List UInt8), cmpL b a = -(cmpL a b)
  | [], [] => rfl
  | [], _ :: _ => rfl
  | _ :: _, [] => rfl
  | x :: a, y :: b => by
    unfold cmpL
    by_cases h1 : x < y
    · rw [if_neg (u8_asym h1), if_pos h1, if_pos h1]; rfl
    · by_cases h2 : y < x
      · rw [if_pos h2, if_neg h1, if_pos h2]
      · rw [if_neg h2, if_neg h1, if_neg h1, if_neg h2, cmpL_neg a b]
theorem cmpL_range : ∀ (a b : List UInt8), cmpL a b = -1 ∨ cmpL a b = 0 ∨ cmpL a b = 1
  | [], [] => by simp [cmpL]
  | [], _ :: _ => by simp [cmpL]
  | _ :: _, [] => by simp [cmpL]
  | x :: a, y :: b => by
    unfold cmpL
    split
    · simp
    · split
      · simp
      · exact cmpL_range a b
theorem cmpL_zero : ∀ (a b : List UInt8), cmpL a b = 0 ↔ a = b
  | [], [] => by simp [cmpL]
  | [], _ :: _ => by simp [cmpL]
  | _ :: _, [] => by simp [cmpL]
  | x :: a, y :: b => by
    unfold cmpL
    by_cases h1 : x < y
    · rw [if_pos h1]
      simp only [List.cons.injEq]
      constructor
      · intro h; cases h
      · rintro ⟨rfl, _⟩; exact absurd h1 (UInt8.lt_irrefl x)
    · by_cases h2 : y < x
      · rw [if_neg h1, if_pos h2]
        simp only [List.cons.injEq]
        constructor
        · intro h; cases h
        · rintro ⟨rfl, _⟩; exact absurd h2 (UInt8.lt_irrefl x)
      · rw [if_neg h1, if_neg h2, cmpL_zero a b]
        have := u8_tri x y h1 h2
        subst this
        simp
theorem cmpL_trans : ∀ (a b c : List UInt8), cmpL a b < 0 → cmpL b c < 0 → cmpL a c < 0
  | [], [], _, h, _ => by simp [cmpL] at h
  | [], _ :: _, [], _, h => by simp [cmpL] at h
  | [], _ :: _, _ :: _, _, _ => by simp [cmpL]
  | _ :: _, [], _, h, _ => by simp [cmpL] at h
  | _ :: _, _ :: _, [], _, h => by simp [cmpL] at h
  | x :: a, y :: b, z :: c, h, k => by
    unfold cmpL at h k ⊢
    simp only [UInt8.lt_iff_toNat_lt] at h k ⊢
    by_cases h1 : x.toNat < y.toNat
    · by_cases k1 : y.toNat < z.toNat
      · rw [if_pos (by omega)]; decide
      · rw [if_neg k1] at k
        by_cases k2 : z.toNat < y.toNat
        · rw [if_pos k2] at k; omega
        · rw [if_pos (by omega)]; decide
    · rw [if_neg h1] at h
      by_cases h2 : y.toNat < x.toNat
      · rw [if_pos h2] at h; omega
      · rw [if_neg h2] at h
        by_cases k1 : y.toNat < z.toNat
        · rw [if_pos (by omega)]; decide
        · rw [if_neg k1] at k
          by_cases k2 : z.toNat < y.toNat
          · rw [if_pos k2] at k; omega
          · rw [if_neg k2] at k
            rw [if_neg (by omega), if_neg (by omega)]
            exact cmpL_trans a b c h k
/-- less, for bytes -/
def ltV {m : Nat} (a b : Vec m) : Bool := decide (cmpL a.1 b.1 < 0)
theorem ltV_tot {m : Nat} (a b : Vec m) (h1 : ltV a b = false) (h2 : ltV b a = false) : a = b := by
  have h1 := of_decide_eq_false h1
  have h2 := of_decide_eq_false h2
  rw [cmpL_neg] at h2
  exact Subtype.ext ((cmpL_zero _ _).1 (by omega))
theorem ltV_swo {m : Nat} : SWO (ltV (m := m)) where
  irrefl x := by simp [ltV, cmpL_refl]
  trans x y z h1 h2 := decide_eq_true (cmpL_trans _ _ _ (of_decide_eq_true h1) (of_decide_eq_true h2))
  ntrans x y z h1 h2 := by
    apply decide_eq_false
    intro h3
    have h1 := of_decide_eq_false h1
    have h2 := of_decide_eq_false h2
    have r1 := cmpL_neg x.1 y.1
    by_cases he : cmpL x.1 y.1 = 0
    · have := (cmpL_zero _ _).1 he
      rw [this] at h3; exact h2 h3
    · have : cmpL y.1 z.1 < 0 := cmpL_trans _ _ _ (by omega) h3
      exact h2 this

/-! lists in strictly ascending order -/
section
variable {α : Type} {lt : α → α → Bool}
def SS (lt : α → α → Bool) (L : List α) : Prop := L.Pairwise (fun x y => lt x y = true)
theorem SS.nodup (hw : SWO lt) {L : List α} (h : SS lt L) : L.Nodup := by
  refine List.Pairwise.imp ?_ h
  intro x y hxy e
  subst e
  rw [hw.irrefl] at hxy; cases hxy
theorem asym (hw : SWO lt) {x y : α} (h : lt x y = true) : lt y x = false := by
  cases h2 : lt y x with
  | false => rfl
  | true => have := hw.trans x y x h h2; rw [hw.irrefl] at this; cases this
theorem ss_ext (hw : SWO lt) : ∀ {L M : List α}, SS lt L → SS lt M → (∀ x, x ∈ L ↔ x ∈ M) → L = M
  | [], [], _, _, _ => rfl
  | [], y :: M, _, _, h => by have := (h y).2 (by simp); simp at this
  | x :: L, [], _, _, h => by have := (h x).1 (by simp); simp at this
  | x :: L, y :: M, h1, h2, h => by
    have a1 := List.pairwise_cons.1 h1
    have a2 := List.pairwise_cons.1 h2
    have hxy : x = y := by
      rcases List.mem_cons.1 ((h x).1 (by simp)) with e | e
      · exact e
      · rcases List.mem_cons.1 ((h y).2 (by simp)) with e' | e'
        · exact e'.symm
        · have b1 := a2.1 x e
          have b2 := a1.1 y e'
          rw [asym hw b2] at b1; cases b1
    subst hxy
    congr 1
    refine ss_ext hw a1.2 a2.2 fun z => ?_
    have hz := h z
    simp only [List.mem_cons] at hz
    constructor
    · intro hm
      rcases hz.1 (.inr hm) with rfl | h'
      · have := a1.1 z hm; rw [hw.irrefl] at this; cases this
      · exact h'
    · intro hm
      rcases hz.2 (.inr hm) with rfl | h'
      · have := a2.1 z hm; rw [hw.irrefl] at this; cases this
      · exact h'
/-- equal neighbours once -/
def compactL [DecidableEq α] : List α → List α
  | [] => []
  | [x] => [x]
  | x :: y :: l => if x = y then compactL (y :: l) else x :: compactL (y :: l)
theorem compactL_snoc [DecidableEq α] : ∀ (l : List α) (z y : α), compactL (l ++ [z] ++ [y]) = if y = z then compactL (l ++ [z]) else compactL (l ++ [z]) ++ [y]
  | [], z, y => by
    simp only [List.nil_append, List.cons_append, compactL]
    by_cases h : y = z
    · rw [if_pos h, if_pos h.symm, h]
    · rw [if_neg h, if_neg (fun e => h e.symm)]
  | [x], z, y => by
    have ih := compactL_snoc [] z y
    simp only [List.nil_append, List.cons_append, compactL] at ih ⊢
    rw [ih]
    by_cases h : y = z <;> by_cases h2 : x = z <;> simp [h, h2]
  | x :: x2 :: l, z, y => by
    have ih := compactL_snoc (x2 :: l) z y
    simp only [List.cons_append, compactL] at ih ⊢
    rw [ih]
    by_cases h : y = z <;> by_cases h2 : x = x2 <;> simp [h, h2]
theorem compactL_mem [DecidableEq α] : ∀ (l : List α) (x : α), x ∈ compactL l ↔ x ∈ l
  | [], x => by simp [compactL]
  | [y], x => by simp [compactL]
  | y :: z :: l, x => by
    rw [compactL]
    split
    · rename_i h; rw [compactL_mem (z :: l) x, h]; simp
    · rw [List.mem_cons, compactL_mem (z :: l) x, List.mem_cons]
      simp
theorem compactL_len [DecidableEq α] : ∀ (l : List α), (compactL l).length ≤ l.length
  | [] => by simp [compactL]
  | [y] => by simp [compactL]
  | y :: z :: l => by
    have := compactL_len (z :: l)
    rw [compactL]; split <;> simp only [List.length_cons] at * <;> omega
theorem compactL_ss [DecidableEq α] (hw : SWO lt) (ht : ∀ x y, lt x y = false → lt y x = false → x = y) : ∀ {l : List α}, l.Pairwise (fun x y => lt y x = false) → SS lt (compactL l)
  | [], _ => by simp [compactL, SS]
  | [y], _ => by simp [compactL, SS]
  | y :: z :: l, h => by
    have h1 := List.pairwise_cons.1 h
    have ih := compactL_ss hw ht h1.2
    rw [compactL]
    split
    · exact ih
    · rename_i hne
      refine List.pairwise_cons.2 ⟨fun x hx => ?_, ih⟩
      rw [compactL_mem] at hx
      have hyz : lt y z = true := by
        cases hq : lt y z with
        | true => rfl
        | false => exact absurd (ht y z hq (h1.1 z (by simp))) hne
      rcases List.mem_cons.1 hx with rfl | hx
      · exact hyz
      · have hzx := (List.pairwise_cons.1 h1.2).1 x hx
        cases hq : lt y x with
        | true => rfl
        | false =>
          have : y = x := ht y x hq (h1.1 x (by simp [hx]))
          subst this
          rw [hyz] at hzx; cases hzx
/-! two such lists merged -/
def mergeL (cmp : α → α → Int) (kp : Bool → Bool → Bool) : List α → List α → List α
  | [], [] => []
  | x :: A, [] => (if kp true false then [x] else []) ++ mergeL cmp kp A []
  | [], y :: B => (if kp false true then [y] else []) ++ mergeL cmp kp [] B
  | x :: A, y :: B =>
    if cmp x y < 0 then (if kp true false then [x] else []) ++ mergeL cmp kp A (y :: B)
    else if cmp x y = 0 then (if kp true true then [y] else []) ++ mergeL cmp kp A B
    else (if kp false true then [y] else []) ++ mergeL cmp kp (x :: A) B
termination_by A B => A.length + B.length
theorem mem_if {b : Bool} {x y : α} : x ∈ (if b = true then [y] else []) ↔ b = true ∧ x = y := by cases b <;> simp
theorem mergeL_mem {cmp : α → α → Int} {kp : Bool → Bool → Bool} (hw : SWO lt) (hc : ∀ x y, cmp x y < 0 ↔ lt x y = true) (hz : ∀ x y, cmp x y = 0 ↔ x = y) (hp : ∀ x y, 0 < cmp x y ↔ lt y x = true) :
    ∀ (A B : List α), SS lt A → SS lt B → ∀ x, (x ∈ mergeL cmp kp A B ↔ (x ∈ A ∧ x ∉ B ∧ kp true false = true) ∨ (x ∉ A ∧ x ∈ B ∧ kp false true = true) ∨ (x ∈ A ∧ x ∈ B ∧ kp true true = true))
  | [], [], _, _, x => by simp [mergeL]
  | a :: A, [], hA, hB, x => by
    have ih := mergeL_mem hw hc hz hp (kp := kp) A [] (List.pairwise_cons.1 hA).2 hB x
    rw [mergeL, List.mem_append, ih, mem_if]
    simp only [List.mem_cons, List.not_mem_nil, not_false_iff, true_and, false_and, and_false, or_false]
    constructor
    · rintro (⟨h, rfl⟩ | h)
      · exact ⟨.inl rfl, h⟩
      · exact ⟨.inr h.1, h.2⟩
    · rintro ⟨h | h, k⟩
      · exact .inl ⟨k, h⟩
      · exact .inr ⟨h, k⟩
  | [], b :: B, hA, hB, x => by
    have ih := mergeL_mem hw hc hz hp (kp := kp) [] B hA (List.pairwise_cons.1 hB).2 x
    rw [mergeL, List.mem_append, ih, mem_if]
    simp only [List.mem_cons, List.not_mem_nil, not_false_iff, true_and, false_and, or_false, false_or]
    constructor
    · rintro (⟨h, rfl⟩ | h)
      · exact ⟨.inl rfl, h⟩
      · exact ⟨.inr h.1, h.2⟩
    · rintro ⟨h | h, k⟩
      · exact .inl ⟨k, h⟩
      · exact .inr ⟨h, k⟩
  | a :: A, b :: B, hA, hB, x => by
    have pA := List.pairwise_cons.1 hA
    have pB := List.pairwise_cons.1 hB
    rw [mergeL]
    split
    · rename_i h
      have ih := mergeL_mem hw hc hz hp (kp := kp) A (b :: B) pA.2 hB x
      have hab := (hc a b).1 h
      have haB : a ∉ b :: B := by
        intro hm
        rcases List.mem_cons.1 hm with rfl | hm
        · rw [hw.irrefl] at hab; cases hab
        · have := asym hw (hw.trans _ _ _ hab (pB.1 a hm)); rw [hw.irrefl] at this
          have h2 := hw.trans _ _ _ hab (pB.1 a hm); rw [hw.irrefl] at h2; cases h2
      have haA : a ∉ A := fun hm => by have := pA.1 a hm; rw [hw.irrefl] at this; cases this
      rw [List.mem_append, ih, mem_if, List.mem_cons (a := x) (l := A)]
      by_cases hx : x = a
      · subst hx
        simp [haA, haB]
      · simp [hx]
    · split
      · rename_i h1 h2
        have ih := mergeL_mem hw hc hz hp (kp := kp) A B pA.2 pB.2 x
        have hab := (hz a b).1 h2
        subst hab
        have haA : a ∉ A := fun hm => by have := pA.1 a hm; rw [hw.irrefl] at this; cases this
        have haB : a ∉ B := fun hm => by have := pB.1 a hm; rw [hw.irrefl] at this; cases this
        rw [List.mem_append, ih, mem_if, List.mem_cons (a := x) (l := A), List.mem_cons (a := x) (l := B)]
        by_cases hx : x = a
        · subst hx
          simp [haA, haB]
        · simp [hx]
      · rename_i h1 h2
        have ih := mergeL_mem hw hc hz hp (kp := kp) (a :: A) B hA pB.2 x
        have hba : lt b a = true := (hp a b).1 (by omega)
        have hbA : b ∉ a :: A := by
          intro hm
          rcases List.mem_cons.1 hm with rfl | hm
          · rw [hw.irrefl] at hba; cases hba
          · have h2 := hw.trans _ _ _ hba (pA.1 b hm); rw [hw.irrefl] at h2; cases h2
        have hbB : b ∉ B := fun hm => by have := pB.1 b hm; rw [hw.irrefl] at this; cases this
        rw [List.mem_append, ih, mem_if, List.mem_cons (a := x) (l := B)]
        by_cases hx : x = b
        · subst hx
          simp [hbA, hbB]
        · simp [hx]
termination_by A B => A.length + B.length
theorem mergeL_ss {cmp : α → α → Int} {kp : Bool → Bool → Bool} (hw : SWO lt) (hc : ∀ x y, cmp x y < 0 ↔ lt x y = true) (hz : ∀ x y, cmp x y = 0 ↔ x = y) (hp : ∀ x y, 0 < cmp x y ↔ lt y x = true) :
    ∀ (A B : List α), SS lt A → SS lt B → SS lt (mergeL cmp kp A B)
  | [], [], _, _ => by simp [mergeL, SS]
  | a :: A, [], hA, hB => by
    have pA := List.pairwise_cons.1 hA
    have ih := mergeL_ss hw hc hz hp (kp := kp) A [] pA.2 hB
    rw [mergeL]
    split
    · refine List.pairwise_cons.2 ⟨fun x hx => ?_, ih⟩
      have hx : x ∈ mergeL cmp kp A [] := hx; rw [mergeL_mem hw hc hz hp A [] pA.2 hB] at hx
      rcases hx with h | h | h
      · exact pA.1 x h.1
      · simp at h
      · simp at h
    · exact ih
  | [], b :: B, hA, hB => by
    have pB := List.pairwise_cons.1 hB
    have ih := mergeL_ss hw hc hz hp (kp := kp) [] B hA pB.2
    rw [mergeL]
    split
    · refine List.pairwise_cons.2 ⟨fun x hx => ?_, ih⟩
      have hx : x ∈ mergeL cmp kp [] B := hx; rw [mergeL_mem hw hc hz hp [] B hA pB.2] at hx
      rcases hx with h | h | h
      · simp at h
      · exact pB.1 x h.2.1
      · simp at h
    · exact ih
  | a :: A, b :: B, hA, hB => by
    have pA := List.pairwise_cons.1 hA
    have pB := List.pairwise_cons.1 hB
    rw [mergeL]
    split
    · rename_i h
      have ih := mergeL_ss hw hc hz hp (kp := kp) A (b :: B) pA.2 hB
      have hab := (hc a b).1 h
      split
      · refine List.pairwise_cons.2 ⟨fun x hx => ?_, ih⟩
        have hx : x ∈ mergeL cmp kp A (b :: B) := hx; rw [mergeL_mem hw hc hz hp A (b :: B) pA.2 hB] at hx
        have hB' : x ∈ b :: B → lt a x = true := by
          intro hm
          rcases List.mem_cons.1 hm with rfl | hm
          · exact hab
          · exact hw.trans _ _ _ hab (pB.1 x hm)
        rcases hx with h | h | h
        · exact pA.1 x h.1
        · exact hB' h.2.1
        · exact pA.1 x h.1
      · exact ih
    · split
      · rename_i h1 h2
        have ih := mergeL_ss hw hc hz hp (kp := kp) A B pA.2 pB.2
        have hab := (hz a b).1 h2
        subst hab
        split
        · refine List.pairwise_cons.2 ⟨fun x hx => ?_, ih⟩
          have hx : x ∈ mergeL cmp kp A B := hx; rw [mergeL_mem hw hc hz hp A B pA.2 pB.2] at hx
          rcases hx with h | h | h
          · exact pA.1 x h.1
          · exact pB.1 x h.2.1
          · exact pA.1 x h.1
        · exact ih
      · rename_i h1 h2
        have ih := mergeL_ss hw hc hz hp (kp := kp) (a :: A) B hA pB.2
        have hba : lt b a = true := (hp a b).1 (by omega)
        split
        · refine List.pairwise_cons.2 ⟨fun x hx => ?_, ih⟩
          have hx : x ∈ mergeL cmp kp (a :: A) B := hx; rw [mergeL_mem hw hc hz hp (a :: A) B hA pB.2] at hx
          have hA' : x ∈ a :: A → lt b x = true := by
            intro hm
            rcases List.mem_cons.1 hm with rfl | hm
            · exact hba
            · exact hw.trans _ _ _ hba (pA.1 x hm)
          rcases hx with h | h | h
          · exact hA' h.1
          · exact pB.1 x h.2.1
          · exact hA' h.1
        · exact ih
termination_by A B => A.length + B.length
/-! an element put where it belongs -/
def insAt (lt : α → α → Bool) (y : α) (L : List α) : Nat := (L.takeWhile (fun x => lt x y)).length
theorem ins_ss (hw : SWO lt) (ht : ∀ x y, lt x y = false → lt y x = false → x = y) {L : List α} (h : SS lt L) {y : α} (hy : y ∉ L) {at_ : Nat} (h1 : ∀ i, i < at_ → ∀ x, L[i]? = some x → lt x y = true) (h2 : ∀ x, L[at_]? = some x → lt x y = false) : SS lt (L.take at_ ++ [y] ++ L.drop at_) := by
  have hb : ∀ x ∈ L.take at_, lt x y = true := by
    intro x hx
    obtain ⟨i, hi, rfl⟩ := List.getElem_of_mem hx
    have hi' : i < at_ ∧ i < L.length := by rw [List.length_take] at hi; omega
    refine h1 i hi'.1 _ ?_
    rw [List.getElem_take]; exact List.getElem?_eq_getElem hi'.2
  have ha : ∀ x ∈ L.drop at_, lt y x = true := by
    intro x hx
    cases hd : L.drop at_ with
    | nil => rw [hd] at hx; simp at hx
    | cons z D =>
      have hz : L[at_]? = some z := by
        have := congrArg (fun l => l[0]?) hd
        simpa using this
      have hzy : lt y z = true := by
        cases hq : lt y z with
        | true => rfl
        | false => exact absurd (by rw [ht z y (h2 z hz) hq] at hz; exact List.mem_of_getElem? hz) hy
      rw [hd] at hx
      rcases List.mem_cons.1 hx with rfl | hx
      · exact hzy
      · have hs : SS lt (L.drop at_) := h.sublist (List.drop_sublist _ _)
        rw [hd] at hs
        exact hw.trans _ _ _ hzy ((List.pairwise_cons.1 hs).1 x hx)
  have hA : SS lt (L.take at_) := h.sublist (List.take_sublist _ _)
  have hD : SS lt (L.drop at_) := h.sublist (List.drop_sublist _ _)
  unfold SS
  rw [List.append_assoc, List.pairwise_append]
  refine ⟨hA, List.pairwise_cons.2 ⟨ha, hD⟩, ?_⟩
  intro x hx z hz
  rcases List.mem_cons.1 hz with rfl | hz
  · exact hb x hx
  · exact hw.trans _ _ _ (hb x hx) (ha z hz)
theorem ins_mem {L : List α} {y x : α} {at_ : Nat} : x ∈ L.take at_ ++ [y] ++ L.drop at_ ↔ x = y ∨ x ∈ L := by
  conv => rhs; rw [← List.take_append_drop at_ L]
  simp only [List.mem_append, List.mem_singleton]
  constructor
  · rintro ((h | h) | h)
    · exact .inr (.inl h)
    · exact .inl h
    · exact .inr (.inr h)
  · rintro (h | h | h)
    · exact .inl (.inr h)
    · exact .inl (.inl h)
    · exact .inr h
end
end Go.Eng
namespace Go.Eng
section
variable {α : Type} [DecidableEq α] {L M : List α}
theorem compactL_short (h : L.length < 2) : compactL L = L := by
  match L, h with
  | [], _ => rfl
  | [x], _ => rfl
theorem compactL_at {i : Nat} {y z : α} (hi : 1 ≤ i) (hy : L[i]? = some y) (hz : L[i - 1]? = some z) : compactL (L.take (i + 1)) = if y = z then compactL (L.take i) else compactL (L.take i) ++ [y] := by
  have e : L.take i = L.take (i - 1) ++ [z] := by
    have := take_snoc hz
    rwa [show i - 1 + 1 = i by omega] at this
  rw [take_snoc hy, e]
  exact compactL_snoc _ _ _
omit [DecidableEq α] in
theorem drop_get {q j : Nat} (h : M.drop q = L.drop q) (hj : q ≤ j) : M[j]? = L[j]? := by
  have := congrArg (fun l => l[j - q]?) h
  simpa [show q + (j - q) = j by omega] using this
end
end Go.Eng
namespace Go.Eng
section
variable {α : Type}
theorem nodup_len [DecidableEq α] : ∀ {l m : List α}, l.Nodup → (∀ x ∈ l, x ∈ m) → l.length ≤ m.length
  | [], _, _, _ => by simp
  | a :: l, m, hn, hs => by
    have ha := hs a (by simp)
    have h1 := nodup_len (l := l) (m := m.erase a) (List.nodup_cons.1 hn).2 (fun x hx => (List.mem_erase_of_ne (by rintro rfl; exact (List.nodup_cons.1 hn).1 hx)).2 (hs x (by simp [hx])))
    rw [List.length_erase_of_mem ha] at h1
    have := List.length_pos_of_mem ha
    simp; omega
/-- which of two lists comes next -/
def ordM (cmp : α → α → Int) : List α → List α → Int
  | _, [] => -1
  | [], _ :: _ => 1
  | x :: _, y :: _ => cmp x y
theorem ordM_cases {cmp : α → α → Int} {kp : Bool → Bool → Bool} {A B : List α} {o : Int} (hne : 0 < A.length + B.length) (ho : o = ordM cmp A B) :
    (o < 0 ∧ ∃ x A2, A = x :: A2 ∧ mergeL cmp kp A B = (if kp true false then [x] else []) ++ mergeL cmp kp A2 B) ∨
    (o = 0 ∧ ∃ x A2 y B2, A = x :: A2 ∧ B = y :: B2 ∧ mergeL cmp kp A B = (if kp true true then [y] else []) ++ mergeL cmp kp A2 B2) ∨
    (0 < o ∧ ∃ y B2, B = y :: B2 ∧ mergeL cmp kp A B = (if kp false true then [y] else []) ++ mergeL cmp kp A B2) := by
  match A, B with
  | [], [] => simp at hne
  | x :: A, [] => exact .inl ⟨by rw [ho]; simp [ordM], x, A, rfl, by rw [mergeL]⟩
  | [], y :: B => exact .inr (.inr ⟨by rw [ho]; simp [ordM], y, B, rfl, by rw [mergeL]⟩)
  | x :: A, y :: B =>
    have ho : o = cmp x y := ho
    by_cases h1 : cmp x y < 0
    · exact .inl ⟨by omega, x, A, rfl, by rw [mergeL, if_pos h1]⟩
    · by_cases h2 : cmp x y = 0
      · exact .inr (.inl ⟨by omega, x, A, y, B, rfl, rfl, by rw [mergeL, if_neg h1, if_pos h2]⟩)
      · exact .inr (.inr ⟨by omega, y, B, rfl, by rw [mergeL, if_neg h1, if_neg h2]⟩)
theorem ord_two {cmp : α → α → Int} {A B : List α} {x y : α} (hx : A[0]? = some x) (hy : B[0]? = some y) : cmp x y = ordM cmp A B := by
  match A, B, hx, hy with
  | a :: A, b :: B, hx, hy => simp at hx hy; subst hx hy; rfl
theorem ord_one {cmp : α → α → Int} {A B : List α} (hA : A.length = 0) (hB : ¬ B.length = 0) : 1 = ordM cmp A B := by
  match A, B, hA, hB with
  | [], b :: B, _, _ => rfl
theorem ord_neg {cmp : α → α → Int} {A B : List α} (hB : B.length = 0) : -1 = ordM cmp A B := by
  match B, hB with
  | [], _ => cases A <;> rfl
end
end Go.Eng
namespace Go.Eng
section
variable {K : Kn} {Hs : List Hl} {α : Type} {enc : α → List Value} {sz : Nat} {ad : Option Addr} {m c : Nat} {L : List α}
theorem Rd.preO [r : Rd enc sz K Hs (.slice ad m c) L] {j : Nat} (hj : j ≤ L.length) : Rd enc sz K Hs (.slice ad j c) (L.take j) := by
  have hl := r.len
  have hsl := r.sl
  have hlen : (L.take j).length = j := by rw [List.length_take]; omega
  obtain ⟨ad', cap', he, h1, h2, h3⟩ := r.ex
  refine ⟨ad, c, by rw [hlen], by omega, fun y hy => h2 y (List.mem_of_mem_take hy), fun w hs => ?_⟩
  have h := hsl w hs
  rw [hlen]
  refine ⟨hlen, fun y hy => h.size y (List.mem_of_mem_take hy), fun hne => ?_⟩
  obtain ⟨b, off, e, hat⟩ := h.at_ (by intro e; rw [e] at hne; simp at hne)
  refine ⟨b, off, e, fun i v hv => hat i v ?_⟩
  have : L.flatMap enc = (L.take j).flatMap enc ++ (L.drop j).flatMap enc := by rw [← List.flatMap_append, List.take_append_drop]
  rw [this, List.getElem?_append_left (List.getElem?_eq_some_iff.1 hv).1]; exact hv
theorem Rd.sufO [r : Rd enc sz K Hs (.slice ad m c) L] {j : Nat} (hj : j ≤ L.length) : Rd enc sz K Hs (.slice (subAd ad c j sz) (m - j) (c - j)) (L.drop j) := by
  have hl := r.len
  have hsl := r.sl
  have hlen : (L.drop j).length = m - j := by rw [List.length_drop]; omega
  obtain ⟨ad', cap', he, h1, h2, h3⟩ := r.ex
  refine ⟨subAd ad c j sz, c - j, by rw [hlen], by omega, fun y hy => h2 y (List.mem_of_mem_drop hy), fun w hs => ?_⟩
  rw [hlen]
  exact (hsl w hs).tail hl.2 (by omega)
end
end Go.Eng
