/-
  A clone looks the same; Equal says what the reference's Same says (plain).
-/
import Derived.Test.YtoidpcmcbmioiaaRef38c
namespace Go.Proofs.Ytoidpcmcbmioiaa
open Go.Eng Go.RowKit

theorem lkM_perm {M M' : OMap} (h : (M.map (·.1)).Nodup) (hp : M'.Perm M) (a : Vec 32) : lkM M' a = lkM M a := by
  have h' : (M'.map (·.1)).Nodup := (hp.map _).nodup_iff.2 h
  cases hl : lkM M a with
  | none =>
    rw [lkM_none] at hl ⊢
    intro hm; exact hl ((hp.map _).subset hm)
  | some b => exact lkM_of_mem h' (hp.symm.subset (lkM_mem hl))
theorem BInv.perm {s : Bk} (h : BInv s) {M' : OMap} (hp : M'.Perm s.M) : BInv { s with M := M' } := ⟨h.nd, h.nz, h.ok, h.le, (hp.map _).nodup_iff.2 h.mnd, fun q hq => h.msub q (hp.subset hq)⟩
theorem vw_perm {s : Bk} (h : BInv s) {M' : OMap} (hp : M'.Perm s.M) : vw { s with M := M' } = vw s := by
  simp only [vw, RB.mk.injEq, true_and]
  apply List.map_congr_left
  intro e _
  simp only [vwE, RE.mk.injEq, true_and, Bk.out]
  rw [lkM_perm h.mnd hp]
theorem len_sub {α : Type} [DecidableEq α] : ∀ {l m : List α}, l.Nodup → (∀ x ∈ l, x ∈ m) → l.length ≤ m.length
  | [], _, _, _ => by simp
  | a :: l, m, hn, hs => by
    have ha := hs a (by simp)
    have h1 := len_sub (l := l) (m := m.erase a) (List.nodup_cons.1 hn).2 (fun x hx => (List.mem_erase_of_ne (by rintro rfl; exact (List.nodup_cons.1 hn).1 hx)).2 (hs x (by simp [hx])))
    rw [List.length_erase_of_mem ha] at h1
    have := List.length_pos_of_mem ha
    simp; omega
theorem eqB_vw {s s2 : Bk} (h : BInv s) (h2 : BInv s2) : eqB s s2 = sameR (vw s) (vw s2) := by
  unfold eqB sameR
  have key : (decide (s.L = s2.L) && eqM s.M s2.M) = decide ((vw s).L = (vw s2).L) := by
    by_cases hl : s.L = s2.L
    · rw [decide_eq_true hl, Bool.true_and, Bool.eq_iff_iff, decide_eq_true_eq]
      constructor
      · intro he
        simp only [eqM, Bool.and_eq_true, decide_eq_true_eq, List.all_eq_true] at he
        obtain ⟨e1, e2⟩ := he
        have ho : ∀ a, s.out a = s2.out a := by
          intro a
          have hsub : (s.M.map (·.1)).Sublist (s.M.map (·.1)) := List.Sublist.refl _
          cases hl1 : lkM s.M a with
          | some b =>
            have := e2 _ (lkM_mem hl1)
            simp only [Bk.out, hl1, this]
          | none =>
            cases hl2 : lkM s2.M a with
            | none => simp only [Bk.out, hl1, hl2]
            | some b =>
              exfalso
              have hnd : (a :: s.M.map (·.1)).Nodup := List.nodup_cons.2 ⟨lkM_none.1 hl1, h.mnd⟩
              have hss : ∀ x ∈ a :: s.M.map (·.1), x ∈ s2.M.map (·.1) := by
                intro x hx
                rcases List.mem_cons.1 hx with rfl | hx
                · exact List.mem_map.2 ⟨_, lkM_mem hl2, rfl⟩
                · obtain ⟨q, hq, rfl⟩ := List.mem_map.1 hx
                  exact List.mem_map.2 ⟨_, lkM_mem (e2 q hq), rfl⟩
              have := len_sub hnd hss
              simp at this; omega
        rw [show (vw s).L = s.L.map (vwE s) from rfl, show (vw s2).L = s2.L.map (vwE s2) from rfl, ← hl]
        apply List.map_congr_left
        intro e _
        simp only [vwE, ho]
      · intro he
        have e1 : s.M.length = s2.M.length := by rw [← outs_vw h, ← outs_vw h2, he]
        simp only [eqM, Bool.and_eq_true, decide_eq_true_eq, List.all_eq_true]
        refine ⟨e1, fun q hq => ?_⟩
        obtain ⟨h3, h4⟩ := h.msub q hq
        obtain ⟨e, hem, hid⟩ := List.mem_map.1 h4
        rw [show (vw s).L = s.L.map (vwE s) from rfl, show (vw s2).L = s2.L.map (vwE s2) from rfl, ← hl] at he
        have h5 := List.map_inj_left.1 he e hem
        simp only [vwE, RE.mk.injEq, true_and] at h5
        have h6 : s.out e.id = true := by simp only [Bk.out]; rw [hid, lkM_of_mem (v := q.2) h.mnd hq, h3]; rfl
        rw [h6] at h5
        rw [← hid, h3]
        cases hl2 : lkM s2.M e.id with
        | none => simp [Bk.out, hl2] at h5
        | some b => simp [Bk.out, hl2] at h5; rw [h5]
    · rw [decide_eq_false hl, Bool.false_and, eq_comm, decide_eq_false_iff_not]
      intro he
      apply hl
      have := congrArg (List.map (fun r : RE => (⟨r.id, r.due, r.tries⟩ : Ent))) he
      simpa [vw, vwE, Function.comp_def] using this
  rw [Bool.and_assoc, key]
  rfl
end Go.Proofs.Ytoidpcmcbmioiaa
