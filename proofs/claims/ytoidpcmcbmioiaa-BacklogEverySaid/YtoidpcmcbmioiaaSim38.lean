/-
  What the backlog does is what the reference does: the plain law.
-/
import Derived.Test.YtoidpcmcbmioiaaRef38b
import Derived.Test.YtoidpcmcbmioiaaBklS
namespace Go.Proofs.Ytoidpcmcbmioiaa
open Go.Eng Go.RowKit

def vwE (s : Bk) (e : Ent) : RE := ⟨e.id, e.due, e.tries, s.out e.id⟩
def vw (s : Bk) : RB := ⟨s.cap, s.wait, s.inc, s.L.map (vwE s)⟩
@[simp] theorem vw_len (s : Bk) : (vw s).L.length = s.L.length := by simp [vw]
theorem rIs_vw (s : Bk) (a : Vec 32) (e : Ent) : rIs a (vwE s e) = isId a e := rfl
theorem has_map (s : Bk) (a : Vec 32) (L : List Ent) : rHas a (L.map (vwE s)) = has a L := by
  unfold rHas has; rw [List.any_map]; rfl
theorem has_vw (s : Bk) (a : Vec 32) : rHas a (vw s).L = has a s.L := has_map s a s.L
theorem find_map (s : Bk) (a : Vec 32) : ∀ (L : List Ent), (L.map (vwE s)).find? (rIs a) = (L.find? (isId a)).map (vwE s)
  | [] => rfl
  | e :: L => by
    rw [List.map_cons, List.find?_cons, List.find?_cons, rIs_vw]
    cases isId a e
    · exact find_map s a L
    · rfl
theorem find_has {a : Vec 32} {L : List Ent} : (has a L = false → L.find? (isId a) = none) ∧ (has a L = true → ∃ e, L.find? (isId a) = some e ∧ e.id = a ∧ e ∈ L) := by
  constructor
  · intro h
    rw [List.find?_eq_none]
    intro x hx hp
    have : has a L = true := List.any_eq_true.2 ⟨x, hx, hp⟩
    rw [h] at this; cases this
  · intro h
    obtain ⟨x, hx, hp⟩ := List.any_eq_true.1 h
    cases hf : L.find? (isId a) with
    | none => exact absurd hp (by simpa using (List.find?_eq_none.1 hf) x hx)
    | some e =>
      have hp := List.find?_some hf
      exact ⟨e, rfl, of_decide_eq_true hp, List.mem_of_find?_eq_some hf⟩
theorem addE_vw (s : Bk) (a : Vec 32) (due : Int) : rAddE (vw s) a due = addE s a due := by
  unfold rAddE addE; rw [has_vw, vw_len]; rfl
theorem out_none {s : Bk} (h : BInv s) {a : Vec 32} (ha : has a s.L = false) : s.out a = false := by
  unfold Bk.out
  cases hl : lkM s.M a with
  | none => rfl
  | some b => exact absurd (h.msub _ (lkM_mem hl)).2 (has_false.1 ha)
theorem addS_vw {s : Bk} (h : BInv s) (a : Vec 32) (due : Int) : vw (addS s a due) = rAddS (vw s) a due := by
  unfold addS rAddS
  rw [addE_vw]
  split
  · rfl
  · split
    · rename_i he
      have ha : has a s.L = false := by
        unfold addE at he
        cases hh : has a s.L with
        | false => rfl
        | true =>
          by_cases h1 : a = zid
          · simp [h1] at he
          · by_cases h2 : isMin due = false
            · simp [h1, h2] at he
            · simp [h1, h2, hh] at he
      have ho := out_none h ha
      simp only [vw, List.map_append, List.map_cons, List.map_nil, RB.mk.injEq, true_and]
      have : vwE { s with L := s.L ++ [⟨a, due, 0⟩] } ⟨a, due, 0⟩ = ⟨a, due, 0, false⟩ := by
        simp only [vwE, RE.mk.injEq, true_and]; exact ho
      rw [this]; rfl
    · rfl
theorem remL_vw (s : Bk) (a : Vec 32) : ∀ (L : List Ent), rRemL a (L.map (vwE s)) = (remL a L).map (vwE s)
  | [] => rfl
  | e :: L => by
    rw [List.map_cons, rRemL, remL, rIs_vw]
    split
    · rfl
    · rw [List.map_cons, remL_vw s a L]
theorem vwE_del {s : Bk} (h : BInv s) (a : Vec 32) : (remL a s.L).map (vwE { s with L := remL a s.L, M := delM a s.M }) = (remL a s.L).map (vwE s) := by
  apply List.map_congr_left
  intro e he
  have hne : e.id ≠ a := fun e0 => remL_ids h.nd (List.mem_map.2 ⟨e, he, e0⟩)
  simp only [vwE, RE.mk.injEq, true_and, Bk.out]
  rw [lkM_del h.mnd, if_neg hne]
theorem remS_vw {s : Bk} (h : BInv s) (a : Vec 32) : vw (remS s a) = rRemS (vw s) a := by
  unfold remS rRemS
  rw [has_vw]
  split
  · simp only [vw, RB.mk.injEq, true_and]
    rw [remL_vw, vwE_del h]
  · rfl
theorem rBad_lt {s : RB} {now : Int} {k : Int} (h : k ≠ 2) : ¬ rBad s k now := fun h1 => h h1.1
theorem offE_vw (s : Bk) (a : Vec 32) : rChE (vw s) 0 a 0 = offE s a := by
  unfold rChE offE
  rw [if_neg (rBad_lt (by decide)), show (vw s).L = s.L.map (vwE s) from rfl, find_map]
  cases hh : has a s.L with
  | false => rw [find_has.1 hh]; rfl
  | true =>
    obtain ⟨e, he, hid, _⟩ := find_has.2 hh
    rw [he]
    simp only [Option.map_some, vwE, hid]
    cases s.out a <;> rfl
theorem outL_vw {s : Bk} (a : Vec 32) : ∀ (L : List Ent), (L.map Ent.id).Nodup → rOutL a (L.map (vwE s)) = L.map (vwE { s with M := putM a true s.M })
  | [], _ => rfl
  | e :: L, h => by
    simp only [List.map_cons, List.nodup_cons] at h
    rw [List.map_cons, rOutL, rIs_vw, List.map_cons]
    split
    · rename_i hi
      have hid : e.id = a := of_decide_eq_true hi
      congr 1
      · simp only [vwE, RE.mk.injEq, true_and, Bk.out]
        rw [lkM_put, if_pos hid]; rfl
      · apply List.map_congr_left
        intro x hx
        have hne : x.id ≠ a := fun e0 => h.1 (by rw [hid, ← e0]; exact List.mem_map.2 ⟨x, hx, rfl⟩)
        simp only [vwE, RE.mk.injEq, true_and, Bk.out]
        rw [lkM_put, if_neg hne]
    · rename_i hi
      have hid : e.id ≠ a := by simpa using hi
      rw [outL_vw a L h.2]
      congr 1
      simp only [vwE, RE.mk.injEq, true_and, Bk.out]
      rw [lkM_put, if_neg hid]
theorem offS_vw {s : Bk} (h : BInv s) (a : Vec 32) : vw (offS s a) = rChS (vw s) 0 a 0 := by
  unfold offS rChS
  rw [offE_vw]
  split
  · rw [if_pos rfl]
    simp only [vw, RB.mk.injEq, true_and]
    exact (outL_vw a s.L h.nd).symm
  · rfl
theorem ansE_vw (s : Bk) (a : Vec 32) : rChE (vw s) 1 a 0 = ansE s a := by
  unfold rChE ansE
  rw [if_neg (rBad_lt (by decide)), show (vw s).L = s.L.map (vwE s) from rfl, find_map]
  cases hh : has a s.L with
  | false => rw [find_has.1 hh]; rfl
  | true =>
    obtain ⟨e, he, hid, _⟩ := find_has.2 hh
    rw [he]
    simp only [Option.map_some, vwE, hid]
    cases s.out a <;> rfl
theorem ans_has {s : Bk} {a : Vec 32} (h : ansE s a = 0) : has a s.L = true := by
  unfold ansE at h
  cases hh : has a s.L with
  | true => rfl
  | false => rw [hh] at h; simp at h
theorem ansS_vw {s : Bk} (h : BInv s) (a : Vec 32) : vw (ansS s a) = rChS (vw s) 1 a 0 := by
  unfold ansS rChS
  rw [ansE_vw]
  split
  · rename_i he
    rw [if_neg (by decide), if_pos rfl, remS_vw h, rRemS, has_vw, ans_has he, if_pos rfl]
  · rfl
theorem latE_vw (s : Bk) (a : Vec 32) (now : Int) : rChE (vw s) 2 a now = latE s a now := by
  unfold rChE latE
  rw [show (vw s).L = s.L.map (vwE s) from rfl, find_map]
  by_cases hb : isMin now = false ∨ isMin (now + s.wait) = false
  · rw [if_pos hb, if_pos ⟨rfl, hb⟩]
  · rw [if_neg hb, if_neg (fun h => hb h.2)]
    cases hh : has a s.L with
    | false => rw [find_has.1 hh]; rfl
    | true =>
      obtain ⟨e, he, hid, _⟩ := find_has.2 hh
      rw [he]
      simp only [Option.map_some, vwE, hid]
      cases s.out a <;> rfl
theorem lat_has {s : Bk} {a : Vec 32} {now : Int} (h : latE s a now = 0) : has a s.L = true := by
  unfold latE at h
  cases hh : has a s.L with
  | true => rfl
  | false => rw [hh] at h; split at h <;> simp at h
theorem tries_vw (s : Bk) (a : Vec 32) : rTries a (vw s).L = triesOf s a := by
  unfold rTries triesOf
  rw [show (vw s).L = s.L.map (vwE s) from rfl, find_map]
  cases s.L.find? (isId a) <;> rfl
theorem latS_vw {s : Bk} (h : BInv s) (a : Vec 32) (now : Int) : vw (latS s a now) = rChS (vw s) 2 a now := by
  unfold latS rChS
  rw [latE_vw]
  split
  · rename_i he
    have hh := lat_has he
    rw [if_neg (by decide), if_neg (by decide), tries_vw]
    have e1 := remS_vw h a
    rw [rRemS, has_vw, hh, if_pos rfl] at e1
    have ho : (remS s a).out a = false := out_none (h.rem a) (h.gone a)
    simp only [vw, RB.mk.injEq] at e1 ⊢
    obtain ⟨c1, c2, c3, c4⟩ := e1
    refine ⟨c1, c2, c3, ?_⟩
    rw [List.map_append, ← c4]
    congr 1
    simp only [List.map_cons, List.map_nil, List.cons.injEq, and_true, vwE, RE.mk.injEq, true_and]
    exact ho
  · rfl
theorem dropS_vw (s : Bk) : vw { s with M := [] } = { vw s with L := rDropL (vw s).L } := by
  simp only [vw, RB.mk.injEq, true_and, rDropL, List.map_map]
  apply List.map_congr_left
  intro e _
  rfl
theorem next_vw (s : Bk) (now most : Int) : pickL (rNxt now) RE.id most (vw s).L = nxtL s now most s.L := by
  unfold pickL nxtL
  rw [show (vw s).L = s.L.map (vwE s) from rfl, List.filter_map, List.map_map]
  rfl
theorem outs_vw {s : Bk} (h : BInv s) : rOuts (vw s).L = s.M.length := by
  have e1 : rOuts (vw s).L = ((s.L.filter (fun e => s.out e.id)).map Ent.id).length := by
    unfold rOuts
    rw [show (vw s).L = s.L.map (vwE s) from rfl, List.filter_map, List.length_map, List.length_map]
    rfl
  have n1 : ((s.L.filter (fun e => s.out e.id)).map Ent.id).Nodup := h.nd.sublist (List.filter_sublist.map _)
  have hp : ((s.L.filter (fun e => s.out e.id)).map Ent.id).Perm (s.M.map (·.1)) := by
    rw [List.perm_ext_iff_of_nodup n1 h.mnd]
    intro a
    constructor
    · intro ha
      obtain ⟨e, he, rfl⟩ := List.mem_map.1 ha
      have ho := (List.mem_filter.1 he).2
      simp only [Bk.out] at ho
      cases hl : lkM s.M e.id with
      | none => rw [hl] at ho; cases ho
      | some b => exact List.mem_map.2 ⟨_, lkM_mem hl, rfl⟩
    · intro ha
      obtain ⟨q, hq, rfl⟩ := List.mem_map.1 ha
      obtain ⟨h1, h2⟩ := h.msub q hq
      obtain ⟨e, he, hid⟩ := List.mem_map.1 h2
      refine List.mem_map.2 ⟨e, List.mem_filter.2 ⟨he, ?_⟩, hid⟩
      simp only [Bk.out]
      rw [hid, lkM_of_mem (v := q.2) h.mnd hq, h1]; rfl
  rw [e1, hp.length_eq, List.length_map]
/-! Scan -/
theorem scan_sim {now : Int} (hm : isMin now = true) : ∀ (ids : List (Vec 32)) (s : Bk) (n : Nat), BInv s →
    BInv (runL (scStep now) scGo ⟨true, false, n, s⟩ ids).s ∧ (runL (scStep now) scGo ⟨true, false, n, s⟩ ids).s.L.length ≤ s.L.length + ids.length ∧
    rScanL now (vw s) n ids = (vw { (runL (scStep now) scGo ⟨true, false, n, s⟩ ids).s with inc := (runL (scStep now) scGo ⟨true, false, n, s⟩ ids).full }, (runL (scStep now) scGo ⟨true, false, n, s⟩ ids).n, !(runL (scStep now) scGo ⟨true, false, n, s⟩ ids).full) ∧
    (∀ e ∈ (runL (scStep now) scGo ⟨true, false, n, s⟩ ids).s.L, e ∈ s.L ∨ e.tries = 0)
  | [], s, n, h => ⟨h, by simp [runL], rfl, fun e he => .inl he⟩
  | a :: l, s, n, h => by
    rw [runL, rScanL]
    by_cases h1 : a = zid ∨ has a s.L = true
    · have hg : scGo ⟨true, false, n, s⟩ a = true := by rw [scGo, if_neg Bool.noConfusion, if_pos h1]
      have hst : scStep now ⟨true, false, n, s⟩ a = ⟨true, false, n, s⟩ := by rw [scStep, if_neg Bool.noConfusion, if_pos h1]
      rw [if_pos hg, hst, if_pos (by rw [has_vw]; exact h1)]
      obtain ⟨c1, c2, c3, c4⟩ := scan_sim hm l s n h
      exact ⟨c1, by simp; omega, c3, c4⟩
    · rw [if_neg (c := a = zid ∨ rHas a (vw s).L = true) (by rw [has_vw]; exact h1), addE_vw]
      have ha : a ≠ zid := fun e => h1 (.inl e)
      have hh : has a s.L = false := by cases hh : has a s.L with | false => rfl | true => exact absurd (.inr hh) h1
      by_cases h2 : s.cap ≤ s.L.length
      · have hg : scGo ⟨true, false, n, s⟩ a = false := by rw [scGo, if_neg Bool.noConfusion, if_neg h1, if_pos h2]
        have hst : scStep now ⟨true, false, n, s⟩ a = ⟨false, true, n, s⟩ := by rw [scStep, if_neg Bool.noConfusion, if_neg h1, if_pos h2]
        have hE : addE s a now = 9 := by simp [addE, ha, hm, hh, h2]
        have hS : addS s a now = { s with inc := true } := by rw [addS, hE, if_pos rfl]
        rw [if_neg (by rw [hg]; decide), hst, if_neg (by rw [hE]; decide), ← addS_vw h, hS]
        exact ⟨h, by simp, rfl, fun e he => .inl he⟩
      · have hg : scGo ⟨true, false, n, s⟩ a = true := by rw [scGo, if_neg Bool.noConfusion, if_neg h1, if_neg h2]
        have hst : scStep now ⟨true, false, n, s⟩ a = ⟨true, false, n + 1, { s with L := s.L ++ [⟨a, now, 0⟩] }⟩ := by rw [scStep, if_neg Bool.noConfusion, if_neg h1, if_neg h2]
        have hE : addE s a now = 0 := by simp [addE, ha, hm, hh, h2]
        have hS : addS s a now = { s with L := s.L ++ [⟨a, now, 0⟩] } := by rw [addS, hE, if_neg (by decide), if_pos rfl]
        rw [if_pos hg, hst, if_pos hE, ← addS_vw h, hS]
        obtain ⟨c1, c2, c3, c4⟩ := scan_sim hm l { s with L := s.L ++ [⟨a, now, 0⟩] } (n + 1) (h.app (e := ⟨a, now, 0⟩) ha hh h2)
        refine ⟨c1, by simp at c2 ⊢; omega, c3, fun e he => ?_⟩
        rcases c4 e he with h3 | h3
        · rcases List.mem_append.1 h3 with h3 | h3
          · exact .inl h3
          · simp at h3; subst h3; exact .inr rfl
        · exact .inr h3
theorem scan_vw {s : Bk} (h : BInv s) (ids : List (Vec 32)) (now : Int) : rScan (vw s) ids now = (vw (scanS s now ids), scanN s now ids, scanB s now ids) ∧ BInv (scanS s now ids) ∧ (scanS s now ids).L.length ≤ s.L.length + ids.length ∧ (∀ e ∈ (scanS s now ids).L, e ∈ s.L ∨ e.tries = 0) := by
  unfold rScan scanS scanN scanB scL
  by_cases hm : isMin now = true
  · simp only [hm, if_true]
    obtain ⟨c1, c2, c3, c4⟩ := scan_sim hm ids s 0 h
    exact ⟨c3, ⟨c1.nd, c1.nz, c1.ok, c1.le, c1.mnd, c1.msub⟩, c2, c4⟩
  · simp only [hm]
    exact ⟨rfl, h, by simp, fun e he => .inl he⟩
end Go.Proofs.Ytoidpcmcbmioiaa
