/-
  Maps whose values are slices that the map owns (over any program).
-/
import Derived.Test.YtifghjeapfijkaaGreatDoorMapOps
namespace Go.Eng
open Go.RowKit
section
variable {κ α : Type} [DecidableEq κ] {e : TypeId} {enc : α → List Value} {sz : Nat} {V : List (κ × Value)} {M : List (κ × List α)} {F : Hl} {k : κ} {v : Value}
/-- the slices of a map, with the lists that they hold and the pieces that they own -/
inductive AllR {κ α : Type} (e : TypeId) (enc : α → List Value) (sz : Nat) : List (κ × Value) → List (κ × List α) → Hl → Prop
  | nil : AllR e enc sz [] [] []
  | cons {k : κ} {v : Value} {L : List α} {F : Hl} {V : List (κ × Value)} {M : List (κ × List α)} {G : Hl} : RowL e enc sz v L F → AllR e enc sz V M G → AllR e enc sz ((k, v) :: V) ((k, L) :: M) (F ++ G)
omit [DecidableEq κ] in
theorem AllR.keys (h : AllR e enc sz V M F) : V.map (·.1) = M.map (·.1) := by
  induction h with
  | nil => rfl
  | cons _ _ ih => simp [ih]
omit [DecidableEq κ] in
theorem AllR.len (h : AllR e enc sz V M F) : V.length = M.length := by
  have := congrArg List.length h.keys
  simpa using this
theorem AllR.no (h : AllR e enc sz V M F) (hk : lkM V k = none) : lkM M k = none := by
  rw [lkM_none] at hk ⊢
  rw [← h.keys]; exact hk
theorem AllR.new (h : AllR e enc sz V M F) (hk : lkM V k = none) {v' : Value} {L' : List α} {F' : Hl} (r : RowL e enc sz v' L' F') : AllR e enc sz (putM k v' V) (putM k L' M) (F ++ F') := by
  induction h with
  | nil => simpa [putM] using AllR.cons (k := k) r AllR.nil
  | cons r0 h0 ih =>
    rw [lkM_cons] at hk
    split at hk
    · cases hk
    · rename_i hne
      rw [putM, putM, if_neg hne, if_neg hne, List.append_assoc]
      exact AllR.cons r0 (ih hk)
theorem AllR.at_ (h : AllR e enc sz V M F) (hk : lkM V k = some v) : ∃ L Fk G, lkM M k = some L ∧ RowL e enc sz v L Fk ∧ F.Perm (Fk ++ G) ∧ ∀ v' L' F', RowL e enc sz v' L' F' → ∃ X, AllR e enc sz (putM k v' V) (putM k L' M) X ∧ X.Perm (F' ++ G) := by
  induction h with
  | nil => simp [lkM, findM] at hk
  | @cons k0 v0 L0 F0 V0 M0 G0 r0 h0 ih =>
    rw [lkM_cons] at hk
    by_cases hne : k = k0
    · subst hne
      rw [if_pos rfl] at hk
      obtain rfl : v0 = v := by simpa using hk
      refine ⟨L0, F0, G0, by rw [lkM_cons, if_pos rfl], r0, List.Perm.refl _, fun v' L' F' r' => ⟨F' ++ G0, ?_, List.Perm.refl _⟩⟩
      rw [putM, putM, if_pos rfl, if_pos rfl]
      exact AllR.cons r' h0
    · rw [if_neg hne] at hk
      obtain ⟨L, Fk, G, h1, h2, h3, h4⟩ := ih hk
      refine ⟨L, Fk, F0 ++ G, by rw [lkM_cons, if_neg hne]; exact h1, h2, ?_, fun v' L' F' r' => ?_⟩
      · refine (List.Perm.append_left F0 h3).trans ?_
        simp only [← List.append_assoc]
        exact List.Perm.append_right _ List.perm_append_comm
      · obtain ⟨X, h5, h6⟩ := h4 v' L' F' r'
        refine ⟨F0 ++ X, ?_, ?_⟩
        · rw [putM, putM, if_neg hne, if_neg hne]
          exact AllR.cons r0 h5
        · refine (List.Perm.append_left F0 h6).trans ?_
          simp only [← List.append_assoc]
          exact List.Perm.append_right _ List.perm_append_comm
/-- the slice of a key, and how the map looks when it is put back -/
theorem AllR.open_ (h : AllR e enc sz V M F) (k : κ) : ∃ Fk G, RowL e enc sz ((lkM V k).getD (.slice none 0 0)) ((lkM M k).getD []) Fk ∧ F.Perm (Fk ++ G) ∧ ∀ v' L' F', RowL e enc sz v' L' F' → ∃ X, AllR e enc sz (putM k v' V) (putM k L' M) X ∧ X.Perm (F' ++ G) := by
  cases hk : lkM V k with
  | none =>
    refine ⟨[], F, by rw [h.no hk]; exact RowL.nil _ _ _, List.Perm.refl _, fun v' L' F' r' => ⟨F ++ F', h.new hk r', List.perm_append_comm⟩⟩
  | some v =>
    obtain ⟨L, Fk, G, h1, h2, h3, h4⟩ := h.at_ hk
    exact ⟨Fk, G, by rw [h1]; exact h2, h3, h4⟩
/-- a map of slices behind a value -/
class MapR {κ α : outParam Type} (ek : outParam (κ → Value)) (e : outParam TypeId) (enc : outParam (α → List Value)) (sz : outParam Nat) (m : Value) (M : outParam (List (κ × List α))) (F : outParam Hl) : Prop where
  ex : ∃ V G H, MapL ek (fun v : Value => v) m V G ∧ AllR e enc sz V M H ∧ F = G ++ H
end
end Go.Eng
namespace Go.Eng
theorem putM_twice {κ ν : Type} [DecidableEq κ] {k : κ} {a b : ν} : ∀ (M : List (κ × ν)), putM k a (putM k b M) = putM k a M
  | [] => by simp [putM]
  | (c, y) :: M => by
    by_cases h : k = c
    · subst h; simp [putM]
    · simp only [putM, if_neg h, putM_twice M]
end Go.Eng
