/-
  history and reference: the entries in order are the reference's rows.
-/
import Derived.Test.YtobhhnfckhbeeaaRef25c
namespace Go.Proofs.Ytobhhnfckhbeeaa
open Go.Eng Go.RowKit Go.Sort
variable {s : Hi} {L : List HEnt}
theorem Ord.of (h : HOk s) (hs : SS ltH L) (hm : ∀ x, x ∈ L ↔ lkM s.M x.id = some x) : Ord s L := ⟨h, hs, fun x => by
  rw [hm]
  constructor
  · intro e; exact List.mem_map.2 ⟨_, lkM_mem e, rfl⟩
  · intro e
    obtain ⟨q, hq, rfl⟩ := List.mem_map.1 e
    have := h.key q hq
    rw [← this]
    exact lkM_of_mem h.nd hq⟩
theorem Ord.lk (h : Ord s L) (x : HEnt) : x ∈ L ↔ lkM s.M x.id = some x := by
  rw [h.mem]
  constructor
  · intro e
    obtain ⟨q, hq, rfl⟩ := List.mem_map.1 e
    have := h.ok.key q hq
    rw [← this]
    exact lkM_of_mem h.ok.nd hq
  · intro e; exact List.mem_map.2 ⟨_, lkM_mem e, rfl⟩
theorem Ord.keyOf (h : Ord s L) {a : Vec 32} {x : HEnt} (e : lkM s.M a = some x) : x.id = a := (h.ok.key _ (lkM_mem e)).symm
theorem Ord.find (h : Ord s L) (a : Vec 32) : lkM s.M a = L.find? (hIs a) := by
  cases e : lkM s.M a with
  | none =>
    symm
    rw [List.find?_eq_none]
    intro x hx he
    have he : x.id = a := of_decide_eq_true he
    have := (h.lk x).1 hx
    rw [he, e] at this; cases this
  | some x =>
    have hid := h.keyOf e
    have hx : x ∈ L := (h.lk x).2 (by rw [hid]; exact e)
    cases e2 : L.find? (hIs a) with
    | none =>
      have := List.find?_eq_none.1 e2 x hx
      simp [hIs, hid] at this
    | some y =>
      have hy0 : hIs a y = true := List.find?_some e2
      have hy : y.id = a := of_decide_eq_true hy0
      have := (h.lk y).1 (List.mem_of_find?_eq_some e2)
      rw [hy, e] at this
      simpa using this
theorem Ord.has (h : Ord s L) (a : Vec 32) : (lkM s.M a).isSome = hHas a L := by
  rw [h.find, hHas, Bool.eq_iff_iff, List.any_eq_true, List.find?_isSome]
theorem ins_ssH {x : HEnt} : ∀ {L : List HEnt}, SS ltH L → (∀ y ∈ L, y.id ≠ x.id) → SS ltH (insH x L)
  | [], _, _ => by simp [insH, atH, SS]
  | z :: L, h, hn => by
    have hp := List.pairwise_cons.1 h
    cases hz : ltV z.id x.id with
    | true =>
      have ih := ins_ssH (x := x) (L := L) hp.2 (fun y hy => hn y (by simp [hy]))
      have e : insH x (z :: L) = z :: insH x L := by simp [insH, atH, List.takeWhile_cons, hz]
      rw [e]
      refine List.pairwise_cons.2 ⟨fun y hy => ?_, ih⟩
      simp only [insH, List.mem_append, List.mem_singleton] at hy
      rcases hy with (hy | rfl) | hy
      · exact hp.1 y (List.mem_of_mem_take hy)
      · exact hz
      · exact hp.1 y (List.mem_of_mem_drop hy)
    | false =>
      have e : insH x (z :: L) = x :: z :: L := by simp [insH, atH, List.takeWhile_cons, hz]
      rw [e]
      have hxz : ltH x z = true := by
        cases hc : ltH x z with
        | true => rfl
        | false => exact absurd (ltV_tot _ _ hz hc) (hn z (by simp))
      refine List.pairwise_cons.2 ⟨fun y hy => ?_, h⟩
      rcases List.mem_cons.1 hy with rfl | hy
      · exact hxz
      · exact ltH_swo.trans _ _ _ hxz (hp.1 y hy)
theorem insH_mem {x y : HEnt} : y ∈ insH x L ↔ y = x ∨ y ∈ L := by
  unfold insH
  have : y ∈ L ↔ y ∈ L.take (atH x.id L) ∨ y ∈ L.drop (atH x.id L) := by rw [← List.mem_append, List.take_append_drop]
  rw [this]
  simp only [List.mem_append, List.mem_singleton]
  constructor
  · rintro ((h | h) | h)
    · exact .inr (.inl h)
    · exact .inl h
    · exact .inr (.inr h)
  · rintro (h | h | h)
    · exact .inl (.inr h)
    · exact .inl (.inl h)
    · exact .inr h
theorem putM_len {x : HEnt} {a : Vec 32} (M : HMap) : (putM a x M).length ≤ M.length + 1 := by
  have := congrArg List.length (putM_keys (k := a) (v := x) M)
  simp only [List.length_map] at this
  rw [this]
  split <;> simp
theorem HOk.put (h : HOk s) {x : HEnt} (hl : (putM x.id x s.M).length ≤ 1048576) : HOk { s with M := putM x.id x s.M } := ⟨putM_nodup h.nd, fun q hq => by
  have h1 := lkM_of_mem (k := q.1) (v := q.2) (putM_nodup (k := x.id) (v := x) h.nd) hq
  rw [lkM_put] at h1
  split at h1
  · rename_i e
    simp at h1
    rw [e, h1]
  · exact h.key q (lkM_mem h1), hl⟩
/-! Add -/
theorem Ord.addE (h : Ord s L) (x : HEnt) (hl : s.M.length < 1048576) : s.addE x = rAddE L x := by
  unfold Hi.addE rAddE
  rw [h.has]
  rw [if_neg (c := (1048576 : Int) ≤ s.M.length) (by omega)]
theorem Ord.add (h : Ord s L) (x : HEnt) (hl : s.M.length < 1048576) : Ord (s.addS x) (rAddL L x) := by
  unfold Hi.addS rAddL
  rw [h.addE x hl]
  by_cases he : rAddE L x = 0
  · rw [if_pos he, if_pos he]
    have hno : hHas x.id L = false := by
      unfold rAddE at he
      split at he
      · contradiction
      · split at he
        · simp at he
        · rename_i h1; simpa using h1
    have hnn : lkM s.M x.id = none := by
      have := h.has x.id
      rw [hno] at this
      simpa using this
    refine Ord.of (h.ok.put (by have := putM_len (x := x) (a := x.id) s.M; omega)) (ins_ssH h.ss fun y hy e => ?_) fun y => ?_
    · rw [hHas, List.any_eq_false] at hno
      exact hno y hy (decide_eq_true e)
    · rw [insH_mem, lkM_put, h.lk]
      by_cases hyx : y.id = x.id
      · rw [if_pos hyx]
        constructor
        · rintro (rfl | h1)
          · rfl
          · rw [hyx, hnn] at h1; cases h1
        · intro h1; simp at h1; exact .inl h1.symm
      · rw [if_neg hyx]
        constructor
        · rintro (rfl | h1)
          · exact absurd rfl hyx
          · exact h1
        · exact .inr
  · rw [if_neg he, if_neg he]; exact h
/-! SetGone -/
theorem Ord.goneE (h : Ord s L) (a : Vec 32) : s.goneE a = rGoneE L a := by unfold Hi.goneE rGoneE; rw [h.find]; cases L.find? (hIs a) <;> rfl
theorem goneF_mem {a : Vec 32} {y : HEnt} : ∀ {L : List HEnt}, (L.map HEnt.id).Nodup → (y ∈ goneF a L ↔ (y ∈ L ∧ y.id ≠ a) ∨ ∃ x ∈ L, x.id = a ∧ y = x.gone)
  | [], _ => by simp [goneF]
  | z :: L, hn => by
    simp only [List.map_cons, List.nodup_cons] at hn
    have hnd : ∀ x ∈ L, x.id ≠ z.id := fun x hx e => hn.1 (List.mem_map.2 ⟨x, hx, e⟩)
    unfold goneF
    by_cases hz : hIs a z = true
    · have hz' : z.id = a := of_decide_eq_true hz
      rw [if_pos hz]
      constructor
      · intro hy
        rcases List.mem_cons.1 hy with rfl | hy
        · exact .inr ⟨z, by simp, hz', rfl⟩
        · exact .inl ⟨by simp [hy], fun e => hnd y hy (e.trans hz'.symm)⟩
      · rintro (⟨hy, hne⟩ | ⟨x, hx, hxa, rfl⟩)
        · rcases List.mem_cons.1 hy with rfl | hy
          · exact absurd hz' hne
          · simp [hy]
        · rcases List.mem_cons.1 hx with rfl | hx
          · simp
          · exact absurd (hxa.trans hz'.symm) (hnd x hx)
    · have hz' : z.id ≠ a := by simpa [hIs] using hz
      rw [if_neg hz, List.mem_cons, goneF_mem hn.2]
      constructor
      · rintro (rfl | ⟨hy, hne⟩ | ⟨x, hx, hxa, rfl⟩)
        · exact .inl ⟨by simp, hz'⟩
        · exact .inl ⟨by simp [hy], hne⟩
        · exact .inr ⟨x, by simp [hx], hxa, rfl⟩
      · rintro (⟨hy, hne⟩ | ⟨x, hx, hxa, rfl⟩)
        · rcases List.mem_cons.1 hy with rfl | hy
          · exact .inl rfl
          · exact .inr (.inl ⟨hy, hne⟩)
        · rcases List.mem_cons.1 hx with rfl | hx
          · exact absurd hxa hz'
          · exact .inr (.inr ⟨x, hx, hxa, rfl⟩)
theorem goneF_ids {a : Vec 32} : ∀ (L : List HEnt), (goneF a L).map HEnt.id = L.map HEnt.id
  | [] => rfl
  | z :: L => by
    unfold goneF
    split
    · simp [HEnt.gone]
    · simp [goneF_ids L]
theorem ss_ids {L L' : List HEnt} (h : L'.map HEnt.id = L.map HEnt.id) (hs : SS ltH L) : SS ltH L' := by
  have h1 : (L.map HEnt.id).Pairwise (fun x y => ltV x y = true) := List.pairwise_map.2 hs
  rw [← h] at h1
  exact List.pairwise_map.1 h1
theorem ss_nd {L : List HEnt} (hs : SS ltH L) : (L.map HEnt.id).Nodup := by
  rw [List.Nodup, List.pairwise_map]
  refine List.Pairwise.imp ?_ hs
  intro x y hxy e
  rw [ltH, e, ltV_swo.irrefl] at hxy; cases hxy
theorem Ord.gone (h : Ord s L) (a : Vec 32) : Ord (s.goneS a) (rGoneL L a) := by
  unfold Hi.goneS rGoneL
  rw [← h.find]
  cases e : lkM s.M a with
  | none => exact h
  | some x =>
    simp only
    by_cases hx : x.state = 1
    · rw [if_pos hx, if_pos hx]; exact h
    · rw [if_neg hx, if_neg hx]
      have hid := h.keyOf e
      have hgi : x.gone.id = a := hid
      have hp : putM a x.gone s.M = putM x.gone.id x.gone s.M := by rw [hgi]
      have hlen : (putM a x.gone s.M).length = s.M.length := by
        have := congrArg List.length (putM_keys (k := a) (v := x.gone) s.M)
        simp only [List.length_map] at this
        rw [this, if_pos (List.mem_map.2 ⟨_, lkM_mem e, rfl⟩), List.length_map]
      have hok : HOk { s with M := putM a x.gone s.M } := by
        rw [hp]; exact h.ok.put (by rw [← hp, hlen]; exact h.ok.len)
      refine Ord.of hok (ss_ids (goneF_ids L) h.ss) fun y => ?_
      rw [goneF_mem (ss_nd h.ss), lkM_put]
      by_cases hya : y.id = a
      · rw [if_pos hya]
        constructor
        · rintro (⟨_, h1⟩ | ⟨z, hz, hza, rfl⟩)
          · exact absurd hya h1
          · have := (h.lk z).1 hz
            rw [hza, e] at this
            simp at this; rw [this]
        · intro h1
          simp at h1
          exact .inr ⟨x, (h.lk x).2 (by rw [hid]; exact e), hid, h1.symm⟩
      · rw [if_neg hya, ← h.lk]
        constructor
        · rintro (⟨h1, _⟩ | ⟨z, hz, hza, rfl⟩)
          · exact h1
          · exact absurd hza hya
        · exact fun h1 => .inl ⟨h1, hya⟩
end Go.Proofs.Ytobhhnfckhbeeaa
