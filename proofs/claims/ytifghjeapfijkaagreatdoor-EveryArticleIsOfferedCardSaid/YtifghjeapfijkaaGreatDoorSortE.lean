/-
  Rows as arrays that are sorted in place: an element is read, an element is set (over any program); the pure sort of the kit, step by step.
-/
import Derived.Test.YtifghjeapfijkaaGreatDoorByt
import Derived.Sort.LotA
import Derived.Sort.LotB
import Derived.Sort.LotC
import Derived.Sort.LotD1
import Derived.Sort.LotD3
import Derived.Sort.LotD4
import Derived.Sort.LotD5
import Derived.Sort.Walk13a
namespace Go.Eng
open Go.RowKit

section
variable {K : Kn} {w : World} {Hs Rs : List Hl} {F : Hl} {C : Hl → List Hl} {α : Type} [Inhabited α] {enc : α → List Value} {sz : Nat} {e : TypeId} {b m cap : Nat} {d : Array α}
/-- the elements of d lie in a row -/
abbrev Arr (e : TypeId) (enc : α → List Value) (sz b m cap : Nat) (d : Array α) (F : Hl) : Prop := RowL e enc sz (.slice (some ⟨b, 0, none⟩) m cap) d.toList F
theorem get!_of {i : Nat} {y : α} (h : d.toList[i]? = some y) : d[i]! = y := by
  have : d[i]? = some y := by rw [← Array.getElem?_toList]; exact h
  simp [Array.getElem!_eq_getD, Array.getD_eq_getD_getElem?, this]
theorem get!_ex {i : Nat} (h : i < d.size) : d.toList[i]? = some d[i]! := by
  rw [Array.getElem?_toList, Array.getElem?_eq_getElem h, getElem!_pos d i h]
omit [Inhabited α] in
theorem Arr.len (h : Arr e enc sz b m cap d F) : d.size = m ∧ m ≤ cap := by
  rcases h.row.2 with ⟨hv, _⟩ | ⟨g, cap', cur, hv, hF, h2, h3, h4⟩
  · simp at hv
  · simp only [Value.slice.injEq, Option.some.injEq, Addr.mk.injEq, and_true] at hv
    obtain ⟨_, h5, h6⟩ := hv
    have hl : d.toList.length = d.size := by simp
    omega
theorem Arr.el (h : Arr e enc sz b m cap d F) [k : FIn F Hs] {i : Nat} (hi : i < m) (w' : World) (hs : Sat K w' Hs) : At w' b (0 + i * sz) (enc d[i]!) := by
  have hl := h.len
  have hr : Rd enc sz K Hs (.slice (some ⟨b, 0, none⟩) m cap) d.toList := Rd.ofRow (h := h)
  exact Sat.elAt (r := hr) cap hs (get!_ex (d := d) (by omega)) w' hs
end
section ops
variable {P : Program} {Q : Post} {n : Nn} {g : Env} {w : World} {ty : TypeId} {pos : String} {af : Array Edge} {ops : Array Oper} {rest : List Oper}
variable {t : TypeId} {x y : Operand} {K : Kn} {Hs Rs : List Hl} {F : Hl} {C : Hl → List Hl} {α : Type} [Inhabited α] {enc : α → List Value} {sz : Nat} {e : TypeId} {b m cap : Nat} {d : Array α}
theorem R.dset (i : Nat) {z : α} (hs : Sat K w Hs) (hr : Arr e enc sz b m cap d F) (hx : look g x = some (.pointer (some ⟨b, 0 + i * sz, none⟩))) (hy : look g y = some (.agg (enc z).toArray)) (hz : szOf P t = some sz) [c : Ctx F Hs C Rs] [en : Enc enc sz] (hi : i < m)
    (k : ∀ w' F', Arr e enc sz b m cap (d.setIfInBounds i z) F' → Sat K w' (C F') → R P ops Q rest n g w') :
    R P ops Q (⟨none, .store t x y, ty, pos, af, none⟩ :: rest) n g w := by
  have hl := hr.len
  refine R.ssetE i (el := d[i]!) z (hs.front (F := F)) hr hx hy hz (get!_ex (by omega)) (en.len z) (Nat.zero_add _) (en.one z) fun w' F' h1 h2 => k w' F' ?_ (hs.back (F := F) h2)
  rw [Arr, Array.toList_setIfInBounds]
  exact h1
end ops
end Go.Eng
namespace Go.Sort
variable {α : Type} [Inhabited α] {lt : α → α → Bool} {d : Array α}
theorem insInner_go {a j : Nat} (h1 : a < j) (h2 : lt d[j]! d[j - 1]! = true) : insInner lt a j d = insInner lt a (j - 1) (swp d j (j - 1)) := by
  match j, h1 with
  | j + 1, h1 => rw [insInner, if_pos]; · rfl
                 · simp only [Nat.add_sub_cancel] at h2; simp [h2]; omega
theorem insInner_stop {a j : Nat} (h : ¬ (a < j ∧ lt d[j]! d[j - 1]! = true)) : insInner lt a j d = d := by
  match j with
  | 0 => rfl
  | j + 1 =>
    rw [insInner, if_neg]
    intro hc
    simp only [Bool.and_eq_true, decide_eq_true_eq] at hc
    exact h ⟨hc.1, by simpa using hc.2⟩
theorem insOuter_go {a b i : Nat} (h : i < b) : insOuter lt a b i d = insOuter lt a b (i + 1) (insInner lt a i d) := by rw [insOuter, if_pos h]
theorem insOuter_stop {a b i : Nat} (h : ¬ i < b) : insOuter lt a b i d = d := by rw [insOuter, if_neg h]
/-- the child that is looked at -/
def child (lt : α → α → Bool) (hi first root : Nat) (d : Array α) : Nat := if 2 * root + 1 + 1 < hi && lt d[first + (2 * root + 1)]! d[first + (2 * root + 1) + 1]! then 2 * root + 2 else 2 * root + 1
theorem child_lt {hi first root : Nat} (h : ¬ 2 * root + 1 ≥ hi) : child lt hi first root d < hi := by
  unfold child; split
  · rename_i h1; simp only [Bool.and_eq_true, decide_eq_true_eq] at h1; omega
  · omega
theorem sift_end {hi first root : Nat} (h : 2 * root + 1 ≥ hi) : siftDown lt hi first root d = d := by rw [siftDown, dif_pos h]
theorem sift_stop {hi first root : Nat} (h : ¬ 2 * root + 1 ≥ hi) (h2 : lt d[first + root]! d[first + child lt hi first root d]! = false) : siftDown lt hi first root d = d := by
  rw [siftDown, dif_neg h]
  unfold child at h2
  split
  · rename_i h1; rw [if_pos h1] at h2; rw [if_pos (by rw [h2]; rfl)]
  · rename_i h1; rw [if_neg h1] at h2; rw [if_pos (by rw [h2]; rfl)]
theorem sift_go {hi first root : Nat} (h : ¬ 2 * root + 1 ≥ hi) (h2 : lt d[first + root]! d[first + child lt hi first root d]! = true) :
    siftDown lt hi first root d = siftDown lt hi first (child lt hi first root d) (swp d (first + root) (first + child lt hi first root d)) := by
  rw [siftDown, dif_neg h]
  have hc := child_lt (lt := lt) (d := d) (first := first) h
  unfold child at h2 hc ⊢
  split
  · rename_i h1; rw [if_pos h1] at h2 hc; rw [if_neg (by rw [h2]; decide), dif_pos hc]
  · rename_i h1; rw [if_neg h1] at h2; rw [if_neg (by rw [h2]; decide)]
theorem scanUp_go {p : α → Bool} {j i : Nat} (h1 : i ≤ j) (h2 : p d[i]! = true) : scanUp p d j i = scanUp p d j (i + 1) := by rw [scanUp, if_pos (by simp [h1, h2])]
theorem scanUp_stop {p : α → Bool} {j i : Nat} (h : ¬ (i ≤ j ∧ p d[i]! = true)) : scanUp p d j i = i := by rw [scanUp, if_neg (by simpa using h)]
theorem scanDown_go {p : α → Bool} {j i : Nat} (h0 : 0 < j) (h1 : i ≤ j) (h2 : p d[j]! = true) : scanDown p d i j = scanDown p d i (j - 1) := by
  match j, h0 with
  | j + 1, _ => rw [scanDown, if_pos (by simp [h1, h2])]; rfl
theorem scanDown_stop {p : α → Bool} {j i : Nat} (h : ¬ (i ≤ j ∧ p d[j]! = true)) : scanDown p d i j = j := by
  match j with
  | 0 => rfl
  | j + 1 => rw [scanDown, if_neg (by simpa using h)]
theorem reverse_go {i j : Nat} (h : i < j) : reverseLoop i j d = reverseLoop (i + 1) (j - 1) (swp d i j) := by rw [reverseLoop, if_pos h]
theorem reverse_stop {i j : Nat} (h : ¬ i < j) : reverseLoop i j d = d := by rw [reverseLoop, if_neg h]
theorem scanSorted_go {b i : Nat} (h1 : i < b) (h2 : lt d[i]! d[i - 1]! = false) : scanSorted lt d b i = scanSorted lt d b (i + 1) := by rw [scanSorted, if_pos (by simp [h1, h2])]
theorem scanSorted_stop {b i : Nat} (h : ¬ (i < b ∧ lt d[i]! d[i - 1]! = false)) : scanSorted lt d b i = i := by rw [scanSorted, if_neg (by simpa using h)]
theorem shiftDown_go {j : Nat} (h0 : 0 < j) (h : lt d[j]! d[j - 1]! = true) : shiftDown lt j d = shiftDown lt (j - 1) (swp d j (j - 1)) := by
  match j, h0 with
  | j + 1, _ => rw [shiftDown, if_neg (by simp at h; simp [h])]; rfl
theorem shiftDown_stop {j : Nat} (h : ¬ (0 < j ∧ lt d[j]! d[j - 1]! = true)) : shiftDown lt j d = d := by
  match j with
  | 0 => rfl
  | j + 1 => rw [shiftDown, if_pos (by simpa using h)]
theorem shiftUp_go {b j : Nat} (h1 : j < b) (h : lt d[j]! d[j - 1]! = true) : shiftUp lt b j d = shiftUp lt b (j + 1) (swp d j (j - 1)) := by rw [shiftUp, if_pos h1, if_neg (by simp [h])]
theorem shiftUp_stop {b j : Nat} (h : ¬ (j < b ∧ lt d[j]! d[j - 1]! = true)) : shiftUp lt b j d = d := by
  rw [shiftUp]
  by_cases h1 : j < b
  · rw [if_pos h1, if_pos (by simpa [h1] using h)]
  · rw [if_neg h1]
theorem part_range {a b pivot : Nat} (h1 : a ≤ pivot) (h2 : pivot < b) (h3 : b ≤ d.size) : a ≤ (partition lt d a b pivot).1 ∧ (partition lt d a b pivot).1 < b := by
  rw [partition_fst]
  have := partLoop_spec lt a b _ (a + 1) (b - 1) (swp d a pivot) (Nat.le_refl _) (Nat.lt_succ_self a) (by omega) (by omega) (by rw [size_swp]; exact h3) (fun t h1 h2 => by omega) (fun t h1 h2 => by omega)
  exact ⟨this.1, this.2.1⟩
theorem partEq_range {a b pivot : Nat} (h1 : a ≤ pivot) (h2 : pivot < b) (h3 : b ≤ d.size) : a < (partitionEqual lt d a b pivot).1 ∧ (partitionEqual lt d a b pivot).1 ≤ b := by
  unfold partitionEqual
  have := partEqLoop_spec lt a b _ (a + 1) (b - 1) (swp d a pivot) (Nat.le_refl _) (Nat.lt_succ_self a) (by omega) (by omega) (by rw [size_swp]; exact h3) (fun t h1 h2 => by omega) (fun t h1 h2 => by omega)
  exact ⟨this.1, this.2.1⟩
theorem swp_sz (i j : Nat) : (swp d i j).size = d.size := size_swp d i j
end Go.Sort
namespace Go.Sort
variable {α : Type} [Inhabited α] {lt : α → α → Bool} {d d0 : Array α}
theorem and_T {p : Prop} [Decidable p] {q : Bool} (h : (decide p && q) = true) : p ∧ q = true := by simpa using h
theorem and_F {p : Prop} [Decidable p] {q : Bool} (h : (decide p && q) = false) : ¬ (p ∧ q = true) := by rintro ⟨h1, h2⟩; rw [decide_eq_true h1, h2] at h; exact Bool.noConfusion h
theorem gT {p q : Bool} (h : p = true) : Value.bool q = Value.bool (p && q) := by rw [h]; rfl
theorem gF {p q : Bool} (h : p = false) : Value.bool false = Value.bool (p && q) := by rw [h]; rfl
theorem partition_yes {a b pv i j : Nat} (h0 : swp d a pv = d0) (hi : scanUp (fun x => lt x d0[a]!) d0 (b - 1) (a + 1) = i) (hj : scanDown (fun x => !lt x d0[a]!) d0 i (b - 1) = j) (h : i > j) : partition lt d a b pv = (j, true, swp d0 j a) := by
  subst h0 hi hj
  simp only [partition, if_pos h]
theorem partition_no {a b pv i j j2 : Nat} {d2 : Array α} (h0 : swp d a pv = d0) (hi : scanUp (fun x => lt x d0[a]!) d0 (b - 1) (a + 1) = i) (hj : scanDown (fun x => !lt x d0[a]!) d0 i (b - 1) = j) (h : ¬ i > j) (hl : partLoop lt a (i + 1) (j - 1) (swp d0 i j) = (j2, d2)) : partition lt d a b pv = (j2, false, swp d2 j2 a) := by
  subst h0 hi hj
  simp only [partition, if_neg h, hl]
theorem partLoop_go {a i j i2 j2 : Nat} (hi : scanUp (fun x => lt x d[a]!) d j i = i2) (hj : scanDown (fun x => !lt x d[a]!) d i2 j = j2) (h : ¬ i2 > j2) : partLoop lt a i j d = partLoop lt a (i2 + 1) (j2 - 1) (swp d i2 j2) := by rw [partLoop_eq, hi, hj, if_neg h]
theorem partLoop_stop {a i j i2 j2 : Nat} (hi : scanUp (fun x => lt x d[a]!) d j i = i2) (hj : scanDown (fun x => !lt x d[a]!) d i2 j = j2) (h : i2 > j2) : partLoop lt a i j d = (j2, d) := by rw [partLoop_eq, hi, hj, if_pos h]
theorem partEq_go {a i j i2 j2 : Nat} (hi : scanUp (fun x => !lt d[a]! x) d j i = i2) (hj : scanDown (fun x => lt d[a]! x) d i2 j = j2) (h : ¬ i2 > j2) : partEqLoop lt a i j d = partEqLoop lt a (i2 + 1) (j2 - 1) (swp d i2 j2) := by rw [partEqLoop_eq, hi, hj, if_neg h]
theorem partEq_stop {a i j i2 j2 : Nat} (hi : scanUp (fun x => !lt d[a]! x) d j i = i2) (hj : scanDown (fun x => lt d[a]! x) d i2 j = j2) (h : i2 > j2) : partEqLoop lt a i j d = (i2, d) := by rw [partEqLoop_eq, hi, hj, if_pos h]
end Go.Sort
namespace Go.Sort
variable {α : Type} [Inhabited α] {lt : α → α → Bool} {d d0 : Array α}
theorem pIns_sorted {a b s i : Nat} (h : scanSorted lt d b i = b) : partialIns lt a b (s + 1) i d = (d, true) := by
  simp only [partialIns]; rw [h, if_pos rfl]
theorem pIns_short {a b s i i2 : Nat} (h : scanSorted lt d b i = i2) (h1 : ¬ i2 = b) (h2 : b - a < 50) : partialIns lt a b (s + 1) i d = (d, false) := by
  simp only [partialIns]; rw [h, if_neg h1, if_pos h2]
theorem pIns_go {a b s i i2 : Nat} {d3 d4 : Array α} (h : scanSorted lt d b i = i2) (h1 : ¬ i2 = b) (h2 : ¬ b - a < 50) (h3 : d3 = if i2 - a ≥ 2 then shiftDown lt (i2 - 1) (swp d i2 (i2 - 1)) else swp d i2 (i2 - 1)) (h4 : d4 = if b - i2 ≥ 2 then shiftUp lt b (i2 + 1) d3 else d3) : partialIns lt a b (s + 1) i d = partialIns lt a b s i2 d4 := by
  subst h4 h3
  simp only [partialIns]; rw [h, if_neg h1, if_neg h2]
/-- the rounds of breakPatterns -/
def bst (a length : Nat) (d : Array α) : Nat → UInt64 × Array α
  | 0 => (UInt64.ofNat length, d)
  | k + 1 => breakStep a length (1 <<< bitsLen length) (bst a length d k) (a + (length / 4) * 2 - 1 + k)
theorem break_bst {a b : Nat} (h : b - a ≥ 8) : breakPatterns d a b = (bst a (b - a) d 3).2 := by
  rw [breakPatterns]
  simp only [if_pos h]
  rfl
/-- the other place -/
def other (length : Nat) (r : UInt64) : Nat := if (r.toNat &&& (2 ^ bitsLen length - 1)) ≥ length then (r.toNat &&& (2 ^ bitsLen length - 1)) - length else (r.toNat &&& (2 ^ bitsLen length - 1))
theorem and_lt' {x n : Nat} (h : 0 < n) : x &&& (n - 1) < n := by
  have : x &&& (n - 1) ≤ n - 1 := Nat.and_le_right
  omega
theorem other_lt {length : Nat} {r : UInt64} (h : 0 < length) : other length r < length := by
  have h1 := two_pow_bitsLen_le h
  have h2 := and_lt' (x := r.toNat) (Nat.two_pow_pos (bitsLen length))
  unfold other; split <;> omega
theorem bst_succ {a length k : Nat} {r : UInt64} {d1 : Array α} (h : bst a length d k = (r, d1)) : bst a length d (k + 1) = (xorNext r, swp d1 (a + (length / 4) * 2 - 1 + k) (a + other length (xorNext r))) := by
  rw [bst, h, breakStep, Nat.one_shiftLeft]
  rfl
end Go.Sort
