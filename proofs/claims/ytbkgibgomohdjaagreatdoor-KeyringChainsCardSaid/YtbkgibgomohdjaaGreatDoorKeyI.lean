/-
 Chapter 19: what the two maps of a keyring hold, in plain terms.
-/
import Derived.Test.YtbkgibgomohdjaaGreatDoorKeyC
namespace Go.Proofs.YtbkgibgomohdjaaGreatDoor
open Go.Eng Go.RowKit Go.Sort
abbrev Slot := Vec 16 × Int
abbrev MKn := List (Vec 32 × Slot)
abbrev MRo := List (Slot × List RO)
def rsl (r : RO) : Slot := (r.au, r.n)
structure KInv (MK : MKn) (MR : MRo) (L : List RO) : Prop where
 ok : LOk L
 kd : ∀ a, (lkM MK a).isSome = hasR L a
 kl : MK.length = L.length
 sl : ∀ s, ((lkM MR s).getD []).Perm (slotL L s.1 s.2)
 ne : ∀ q ∈ MR, q.2 ≠ []
 nd : (MR.map (·.1)).Nodup
variable {MK MK2 : MKn} {MR MR2 : MRo} {L L2 : List RO}
theorem KInv.nil : KInv [] [] [] := ⟨LOk.nil, fun _ => rfl, rfl, fun _ => by simp [lkM, findM, slotL], by simp, by simp⟩
theorem slotL_snoc (r : RO) (s : Slot) : slotL (L ++ [r]) s.1 s.2 = slotL L s.1 s.2 ++ if rsl r = s then [r] else [] := by
 unfold slotL
 rw [List.filter_append]
 congr 1
 by_cases h : rsl r = s
 · rw [if_pos h, List.filter_cons_of_pos (by rw [← h]; simp [atS, rsl])]; rfl
 · rw [if_neg h, List.filter_cons_of_neg (by
     intro hc
     simp only [atS, Bool.and_eq_true, decide_eq_true_eq] at hc
     exact h (by obtain ⟨a, n⟩ := s; simp only at hc; rw [rsl, hc.1, hc.2]))]; rfl
theorem lkM_iff_key {κ ν : Type} [DecidableEq κ] {M : List (κ × ν)} {k : κ} : (lkM M k).isSome = true ↔ k ∈ M.map (·.1) := by
 cases h : lkM M k with
 | none => rw [lkM_none] at h; simp [h]
 | some v => simp; exact ⟨v, lkM_mem h⟩
theorem LOk.snoc (h : LOk L) {r : RO} (hg : Good r) (hh : hasR L r.id = false) : LOk (L ++ [r]) := by
 refine ⟨?_, fun x hx => ?_⟩
 · rw [List.map_append, List.nodup_append]
   refine ⟨h.nd, by simp, fun x hx y hy e => ?_⟩
   simp at hy; subst hy; subst e
   exact hasR_false.1 hh hx
 · rcases List.mem_append.1 hx with hx | hx
   · exact h.good x hx
   · simp at hx; subst hx; exact hg
/-- a roll-over is inserted -/
theorem KInv.ins (h : KInv MK MR L) {r : RO} (hg : Good r) (hh : hasR L r.id = false) : KInv (putM r.id (rsl r) MK) (putM (rsl r) ((lkM MR (rsl r)).getD [] ++ [r]) MR) (L ++ [r]) := by
 have hnk : r.id ∉ MK.map (·.1) := fun hc => by
   have := lkM_iff_key.2 hc
   rw [h.kd, hh] at this; cases this
 refine ⟨h.ok.snoc hg hh, fun a => ?_, ?_, fun s => ?_, fun q hq => ?_, putM_nodup h.nd⟩
 · rw [lkM_put]
   by_cases ha : a = r.id
   · rw [if_pos ha, ha]
     symm
     rw [Option.isSome_some, hasR_iff]; simp
   · rw [if_neg ha, h.kd, Bool.eq_iff_iff, hasR_iff, hasR_iff]; simp [ha]
 · have := congrArg List.length (putM_keys (k := r.id) (v := rsl r) MK)
   rw [if_neg hnk] at this
   simp at this
   rw [this, h.kl]; simp
 · rw [lkM_put, slotL_snoc]
   by_cases hs : s = rsl r
   · subst hs
     rw [if_pos rfl, if_pos rfl]
     exact (h.sl (rsl r)).append_right _
   · rw [if_neg hs, if_neg (fun e => hs e.symm), List.append_nil]
     exact h.sl s
 · have hk := lkM_of_mem (putM_nodup h.nd) (show (q.1, q.2) ∈ _ from hq)
   rw [lkM_put] at hk
   split at hk
   · have := Option.some.inj hk; rw [← this]; simp
   · exact h.ne _ (lkM_mem hk)
theorem KInv.has_slot (h : KInv MK MR L) {q : Slot × List RO} (hq : q ∈ MR) : q.2.Perm (slotL L q.1.1 q.1.2) := by
 have := h.sl q.1
 rw [lkM_of_mem h.nd (show (q.1, q.2) ∈ _ from hq)] at this
 exact this
theorem KInv.mem (h : KInv MK MR L) {r : RO} : r ∈ L ↔ ∃ q ∈ MR, r ∈ q.2 := by
 constructor
 · intro hr
   have h1 : r ∈ slotL L (rsl r).1 (rsl r).2 := mem_slotL.2 ⟨hr, rfl, rfl⟩
   have h2 := (h.sl (rsl r)).mem_iff.2 h1
   cases hk : lkM MR (rsl r) with
   | none => rw [hk] at h2; simp at h2
   | some l => rw [hk] at h2; exact ⟨_, lkM_mem hk, h2⟩
 · rintro ⟨q, hq, hr⟩
   exact (mem_slotL.1 ((h.has_slot hq).mem_iff.1 hr)).1
/-- the authors of the keys of the second map -/
theorem KInv.authors (h : KInv MK MR L) {a : Vec 16} : a ∈ MR.map (fun q => q.1.1) ↔ ∃ r ∈ L, r.au = a := by
 rw [List.mem_map]
 constructor
 · rintro ⟨q, hq, rfl⟩
   cases hl : q.2 with
   | nil => exact absurd hl (h.ne q hq)
   | cons r l =>
     have := (h.has_slot hq).mem_iff.1 (by rw [hl]; simp : r ∈ q.2)
     exact ⟨r, (mem_slotL.1 this).1, (mem_slotL.1 this).2.1⟩
 · rintro ⟨r, hr, rfl⟩
   obtain ⟨q, hq, hrq⟩ := h.mem.1 hr
   exact ⟨q, hq, (mem_slotL.1 ((h.has_slot hq).mem_iff.1 hrq)).2.1.symm⟩
end Go.Proofs.YtbkgibgomohdjaaGreatDoor
