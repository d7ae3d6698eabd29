/-
  package backlog: what holds of every backlog that operations lead to.
-/
import Derived.Test.YtifghjeapfijkaaGreatDoorBklM
namespace Go.Proofs.YtifghjeapfijkaaGreatDoor
open Go.Eng Go.RowKit

theorem add_cases (s : Bk) (a : Vec 32) (due : Int) (hm : isMin due = true) :
    (addE s a due = 9 ∧ a ≠ zid ∧ has a s.L = false ∧ s.cap ≤ s.L.length ∧ addS s a due = { s with inc := true }) ∨
    (addE s a due = 0 ∧ a ≠ zid ∧ has a s.L = false ∧ ¬ s.cap ≤ s.L.length ∧ addS s a due = { s with L := s.L ++ [⟨a, due, 0⟩] }) ∨
    (addE s a due = 1 ∧ a = zid ∧ addS s a due = s) ∨ (addE s a due = 7 ∧ a ≠ zid ∧ has a s.L = true ∧ addS s a due = s) := by
  by_cases h1 : a = zid
  · have : addE s a due = 1 := by simp [addE, h1]
    exact .inr (.inr (.inl ⟨this, h1, by simp [addS, this]⟩))
  · by_cases h2 : has a s.L = true
    · have : addE s a due = 7 := by simp [addE, h1, hm, h2]
      exact .inr (.inr (.inr ⟨this, h1, h2, by simp [addS, this]⟩))
    · have h2 : has a s.L = false := by simpa using h2
      by_cases h3 : s.cap ≤ s.L.length
      · have : addE s a due = 9 := by simp [addE, h1, hm, h2, h3]
        exact .inl ⟨this, h1, h2, h3, by simp [addS, this]⟩
      · have : addE s a due = 0 := by simp [addE, h1, hm, h2, h3]
        exact .inr (.inl ⟨this, h1, h2, h3, by simp [addS, this]⟩)
theorem has_iff {a : Vec 32} {L : List Ent} : has a L = true ↔ a ∈ L.map Ent.id := by
  unfold has
  rw [List.any_eq_true]
  constructor
  · rintro ⟨e, he, h⟩; exact List.mem_map.2 ⟨e, he, of_decide_eq_true h⟩
  · intro h; obtain ⟨e, he, rfl⟩ := List.mem_map.1 h; exact ⟨e, he, by simp⟩
theorem has_false {a : Vec 32} {L : List Ent} : has a L = false ↔ a ∉ L.map Ent.id := by
  rw [← has_iff]; simp
theorem remL_sub (a : Vec 32) : ∀ (L : List Ent), (remL a L).Sublist L
  | [] => by simp [remL]
  | e :: L => by
    unfold remL
    split
    · exact List.sublist_cons_self _ _
    · exact (remL_sub a L).cons_cons _
theorem remL_ids {a : Vec 32} : ∀ {L : List Ent}, (L.map Ent.id).Nodup → a ∉ (remL a L).map Ent.id
  | [], _ => by simp [remL]
  | e :: L, h => by
    simp only [List.map_cons, List.nodup_cons] at h
    unfold remL
    split
    · rename_i he
      have he : e.id = a := of_decide_eq_true he
      rw [← he]; exact h.1
    · rename_i he
      have he : e.id ≠ a := by simpa using he
      simp only [List.map_cons, List.mem_cons, not_or]
      exact ⟨fun e0 => he e0.symm, remL_ids h.2⟩
theorem remL_other {a b : Vec 32} (hab : b ≠ a) : ∀ (L : List Ent), b ∈ (remL a L).map Ent.id ↔ b ∈ L.map Ent.id
  | [] => by simp [remL]
  | e :: L => by
    unfold remL
    split
    · rename_i he
      have he : e.id = a := of_decide_eq_true he
      simp only [List.map_cons, List.mem_cons]
      constructor
      · exact .inr
      · rintro (h | h)
        · exact absurd (h.trans he) hab
        · exact h
    · simp only [List.map_cons, List.mem_cons, remL_other hab L]
/-- what holds of a backlog -/
structure BInv (s : Bk) : Prop where
  nd : (s.L.map Ent.id).Nodup
  nz : zid ∉ s.L.map Ent.id
  ok : newOk s.cap s.wait = true
  le : (s.L.length : Int) ≤ s.cap
  mnd : (s.M.map (·.1)).Nodup
  msub : ∀ q ∈ s.M, q.2 = true ∧ q.1 ∈ s.L.map Ent.id
theorem BInv.start {c wt : Int} (h : newOk c wt = true) : BInv ⟨c, wt, false, [], []⟩ := by
  have h1 : isCap c = true := by simp [newOk] at h; exact h.1
  have h2 : 1 ≤ c := by simp [isCap] at h1; exact h1.1
  exact ⟨by simp, by simp, h, by simp; omega, by simp, by simp⟩
theorem BInv.app {s : Bk} (h : BInv s) {e : Ent} (h1 : e.id ≠ zid) (h2 : has e.id s.L = false) (h3 : ¬ s.cap ≤ s.L.length) : BInv { s with L := s.L ++ [e] } := by
  refine ⟨?_, ?_, h.ok, by simp; omega, h.mnd, fun q hq => ⟨(h.msub q hq).1, by simp only [List.map_append, List.mem_append]; exact .inl (h.msub q hq).2⟩⟩
  · rw [List.map_append, List.nodup_append]
    refine ⟨h.nd, by simp, ?_⟩
    intro x hx y hy hxy
    simp at hy; subst hxy hy
    exact has_false.1 h2 hx
  · simp only [List.map_append, List.mem_append, not_or]
    exact ⟨h.nz, by simpa using fun e0 => h1 e0.symm⟩
theorem BInv.add {s : Bk} (h : BInv s) (a : Vec 32) (due : Int) : BInv (addS s a due) := by
  by_cases hm : isMin due = true
  · rcases add_cases s a due hm with ⟨_, _, _, _, e⟩ | ⟨_, h1, h2, h3, e⟩ | ⟨_, _, e⟩ | ⟨_, _, _, e⟩ <;> rw [e]
    · exact ⟨h.nd, h.nz, h.ok, h.le, h.mnd, h.msub⟩
    · exact h.app (e := ⟨a, due, 0⟩) h1 h2 h3
    · exact h
    · exact h
  · have hm : isMin due = false := by simpa using hm
    have : addS s a due = s := by
      unfold addS addE
      by_cases h1 : a = zid <;> simp [h1, hm]
    rw [this]; exact h
theorem delM_keys {a : Vec 32} {M : OMap} (h : (M.map (·.1)).Nodup) {q : Vec 32 × Bool} (hq : q ∈ delM a M) : q ∈ M ∧ q.1 ≠ a := by
  refine ⟨(delM_sub M).subset hq, ?_⟩
  intro e
  have h1 := lkM_of_mem (k := q.1) (v := q.2) (delM_nodup (k := a) h) hq
  rw [lkM_del h, if_pos e] at h1
  cases h1
theorem BInv.rem {s : Bk} (h : BInv s) (a : Vec 32) : BInv (remS s a) := by
  unfold remS
  split
  · refine ⟨h.nd.sublist ((remL_sub a s.L).map _), fun hz => h.nz (((remL_sub a s.L).map _).subset hz), h.ok, ?_, delM_nodup h.mnd, fun q hq => ?_⟩
    · have := (remL_sub a s.L).length_le; have := h.le; simp only; omega
    · obtain ⟨h1, h2⟩ := delM_keys h.mnd hq
      exact ⟨(h.msub q h1).1, (remL_other h2 s.L).2 (h.msub q h1).2⟩
  · exact h
theorem BInv.gone {s : Bk} (h : BInv s) (a : Vec 32) : has a (remS s a).L = false := by
  cases hh : has a s.L with
  | true => rw [remS, hh, if_pos rfl]; exact has_false.2 (remL_ids h.nd)
  | false => rw [remS, hh, if_neg (by decide)]; exact hh
theorem BInv.off {s : Bk} (h : BInv s) (a : Vec 32) : BInv (offS s a) := by
  unfold offS
  split
  · rename_i he
    have hh : has a s.L = true := by
      unfold offE at he
      split at he
      · simp at he
      · rename_i hn; simpa using hn
    refine ⟨h.nd, h.nz, h.ok, h.le, putM_nodup h.mnd, fun q hq => ?_⟩
    have h1 := lkM_of_mem (k := q.1) (v := q.2) (putM_nodup (k := a) (v := true) h.mnd) hq
    rw [lkM_put] at h1
    split at h1
    · rename_i e
      simp at h1
      rw [← h1, e]; exact ⟨rfl, has_iff.1 hh⟩
    · exact h.msub q (lkM_mem h1)
  · exact h
theorem BInv.drop {s : Bk} (h : BInv s) : BInv { s with M := [] } := ⟨h.nd, h.nz, h.ok, h.le, by simp, by simp⟩
theorem BInv.ans {s : Bk} (h : BInv s) (a : Vec 32) : BInv (ansS s a) := by
  unfold ansS
  split
  · exact h.rem a
  · exact h
theorem remL_len {a : Vec 32} : ∀ {L : List Ent}, has a L = true → (remL a L).length + 1 = L.length
  | [], h => by simp [has] at h
  | e :: L, h => by
    unfold remL
    split
    · simp
    · rename_i he
      have : has a L = true := by simpa [has, he] using h
      simp [remL_len this]
theorem BInv.lat {s : Bk} (h : BInv s) (a : Vec 32) (now : Int) : BInv (latS s a now) := by
  unfold latS
  split
  · rename_i he
    have hh : has a s.L = true := by
      unfold latE at he
      split at he
      · simp at he
      · split at he
        · simp at he
        · rename_i hn; simpa using hn
    have hr := h.rem a
    have e1 : (remS s a).L = remL a s.L := by simp [remS, hh]
    have e2 : (remS s a).cap = s.cap := by unfold remS; split <;> rfl
    refine hr.app (e := ⟨a, now + s.wait, triesOf s a + 1⟩) ?_ ?_ ?_
    · intro e
      have e : a = zid := e
      have := has_iff.1 hh
      rw [e] at this
      exact h.nz this
    · rw [e1]; exact has_false.2 (remL_ids h.nd)
    · rw [e1, e2]
      have := remL_len hh
      have := h.le
      omega
  · exact h
end Go.Proofs.YtifghjeapfijkaaGreatDoor
