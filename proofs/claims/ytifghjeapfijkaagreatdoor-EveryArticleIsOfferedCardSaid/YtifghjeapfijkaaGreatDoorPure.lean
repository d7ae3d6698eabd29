/-
  Plain facts about lists: the first index at which a test holds, what filters and sets leave.
-/
import Derived.Test.YtifghjeapfijkaaGreatDoorRow
namespace Go.Eng
open Go.RowKit

def idxP {α : Type} (p : α → Bool) (L : List α) : Int := match L.findIdx? p with | some i => (i : Int) | none => -1
section
variable {α : Type} {p : α → Bool} {L M : List α} {k : Nat} {y : α}
theorem take_snoc (h : L[k]? = some y) : L.take (k + 1) = L.take k ++ [y] := by
  obtain ⟨h1, h2⟩ := List.getElem?_eq_some_iff.1 h
  rw [List.take_succ_eq_append_getElem h1, h2]
theorem idxP_some (hy : L[k]? = some y) (h : p y = true) (hno : ∀ j, j < k → ∀ z, L[j]? = some z → p z = false) : idxP p L = k := by
  have hlt := (List.getElem?_eq_some_iff.1 hy).1
  have : L.findIdx? p = some k := by
    rw [List.findIdx?_eq_some_iff_getElem]
    refine ⟨hlt, ?_, ?_⟩
    · rw [(List.getElem?_eq_some_iff.1 hy).2]; exact h
    · intro j hj
      have := hno j hj L[j] (List.getElem?_eq_getElem (by omega))
      simp [this]
  rw [idxP, this]
theorem idxP_step (hy : L[k]? = some y) (h : p y = false) (hno : ∀ j, j < k → ∀ z, L[j]? = some z → p z = false) : ∀ j, j < k + 1 → ∀ z, L[j]? = some z → p z = false := by
  intro j hj z hz
  by_cases e : j = k
  · subst e; rw [hy] at hz; simp at hz; rw [← hz]; exact h
  · exact hno j (by omega) z hz
theorem idxP_none (hno : ∀ j, j < k → ∀ z, L[j]? = some z → p z = false) (hk : L.length ≤ k) : idxP p L = -1 := by
  have : L.findIdx? p = none := by
    rw [List.findIdx?_eq_none_iff]
    intro x hx
    obtain ⟨j, hj, rfl⟩ := List.getElem_of_mem hx
    exact hno j (by omega) _ (List.getElem?_eq_getElem hj)
  rw [idxP, this]
theorem idxP_pos (h : ¬ idxP p L = -1) : ∃ i y, idxP p L = ((i : Nat) : Int) ∧ L[i]? = some y ∧ p y = true ∧ ∀ j, j < i → ∀ z, L[j]? = some z → p z = false := by
  unfold idxP at h ⊢
  cases hf : L.findIdx? p with
  | none => rw [hf] at h; exact absurd rfl h
  | some i =>
    obtain ⟨hlt, h1, h2⟩ := List.findIdx?_eq_some_iff_getElem.1 hf
    refine ⟨i, L[i], rfl, List.getElem?_eq_getElem hlt, h1, fun j hj z hz => ?_⟩
    have := h2 j hj
    rw [List.getElem?_eq_getElem (by omega)] at hz
    simp at hz; subst hz; simpa using this
theorem idxP_neg (h : idxP p L = -1) : ∀ y ∈ L, p y = false := by
  unfold idxP at h
  cases hf : L.findIdx? p with
  | none => rw [List.findIdx?_eq_none_iff] at hf; exact hf
  | some i => rw [hf] at h; simp at h
theorem idxP_lt (h : idxP p L < 0) : idxP p L = -1 := by
  unfold idxP at h ⊢
  cases hf : L.findIdx? p with
  | none => rfl
  | some i => rw [hf] at h; simp at h; omega
theorem idxP_ge (h : 0 ≤ idxP p L) : ∃ i y, idxP p L = ((i : Nat) : Int) ∧ L[i]? = some y ∧ p y = true ∧ ∀ j, j < i → ∀ z, L[j]? = some z → p z = false := idxP_pos (by omega)
theorem idxP_nonneg_iff : 0 ≤ idxP p L ↔ ∃ y ∈ L, p y = true := by
  constructor
  · intro h
    obtain ⟨i, y, _, hy, hp, _⟩ := idxP_ge h
    exact ⟨y, List.mem_of_getElem? hy, hp⟩
  · rintro ⟨y, hy, hp⟩
    by_cases h : 0 ≤ idxP p L
    · exact h
    · have := idxP_neg (p := p) (idxP_lt (p := p) (L := L) (by omega)) y hy
      rw [hp] at this; cases this
theorem filter_of_idxP (h : idxP p L = -1) : L.filter (fun y => !p y) = L := by
  rw [List.filter_eq_self]
  intro y hy
  simp [idxP_neg h y hy]
theorem filter_take_first {i : Nat} (hy : L[i]? = some y) (hp : p y = true) (hno : ∀ j, j < i → ∀ z, L[j]? = some z → p z = false) : L.take i = (L.take (i + 1)).filter (fun y => !p y) := by
  rw [take_snoc hy, List.filter_append]
  have : (L.take i).filter (fun y => !p y) = L.take i := by
    rw [List.filter_eq_self]
    intro z hz
    obtain ⟨j, hj, rfl⟩ := List.getElem_of_mem hz
    have hj' : j < i := by simp at hj; omega
    have := hno j hj' (L.take i)[j] (by rw [List.getElem_take]; exact List.getElem?_eq_getElem _)
    rw [this]; rfl
  rw [this]; simp [hp]
theorem take_set_snoc {i : Nat} (h : i < M.length) : (M.set i y).take (i + 1) = M.take i ++ [y] := by
  have : (M.set i y)[i]? = some y := by simp [h]
  rw [take_snoc this, List.take_set_of_le (by omega)]
theorem drop_succ_eq {j : Nat} (h : M.drop j = L.drop j) : M.drop (j + 1) = L.drop (j + 1) := by
  have := congrArg (List.drop 1) h
  simpa [List.drop_drop] using this
end
end Go.Eng
