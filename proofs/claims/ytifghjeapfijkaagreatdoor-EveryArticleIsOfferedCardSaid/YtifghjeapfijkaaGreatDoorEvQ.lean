/-
  EveryArticleIsOffered, the plain part: what holds at every minute, and the number that falls.
-/
import Derived.Test.YtifghjeapfijkaaGreatDoorBklS
import Derived.Test.YtifghjeapfijkaaGreatDoorBklI
namespace Go.Proofs.YtifghjeapfijkaaGreatDoor
open Go.Eng Go.RowKit

def idq (k : Nat) : Vec 32 := ⟨UInt8.ofNat (40 - k) :: 1 :: List.replicate 30 0, rfl⟩
theorem idq_inj {k j : Nat} (hk : k < 40) (hj : j < 40) (h : idq k = idq j) : k = j := by
  have h1 : (idq k).1 = (idq j).1 := by rw [h]
  simp only [idq, List.cons.injEq, and_true] at h1
  have h2 := congrArg UInt8.toNat h1
  simp only [UInt8.toNat_ofNat'] at h2
  omega
theorem idq_nz (k : Nat) : idq k ≠ zid := by
  intro h
  have h1 : (idq k).1 = zid.1 := by rw [h]
  simp only [idq, zid] at h1
  rw [show List.replicate 32 (0 : UInt8) = 0 :: 0 :: List.replicate 30 0 from rfl] at h1
  simp only [List.cons.injEq, and_true] at h1
  exact absurd h1.2 (by decide)
/-- offers that are still owed -/
def owed (f : Nat → Nat) : Nat → List Nat → Nat
  | _, [] => 0
  | o, x :: r => (f o - x) + owed f (o + 1) r
theorem owed_set {f : Nat → Nat} : ∀ {o : Nat} {fs : List Nat} {k x : Nat}, fs[k]? = some x → x < f (o + k) → owed f o (fs.set k (x + 1)) + 1 = owed f o fs
  | _, [], k, x, h, _ => by simp at h
  | o, z :: r, 0, x, h, hx => by
    simp at h; subst h
    simp only [List.set_cons_zero, owed]
    simp at hx; omega
  | o, z :: r, k + 1, x, h, hx => by
    simp only [List.set_cons_succ, owed]
    have := owed_set (o := o + 1) (fs := r) (k := k) (x := x) (f := f) (by simpa using h) (by rw [show o + 1 + k = o + (k + 1) by omega]; exact hx)
    omega
theorem owed_le {f : Nat → Nat} (hf : ∀ k, f k ≤ 3) : ∀ (o : Nat) (fs : List Nat), owed f o fs ≤ 3 * fs.length
  | _, [] => by simp [owed]
  | o, x :: r => by have := owed_le hf (o + 1) r; have := hf o; simp only [owed, List.length_cons]; omega
theorem owed_zero {f : Nat → Nat} : ∀ {o : Nat} {fs : List Nat}, (∀ k x, fs[k]? = some x → f (o + k) ≤ x) → owed f o fs = 0
  | _, [], _ => rfl
  | o, x :: r, h => by
    have h0 := h 0 x rfl
    have := owed_zero (o := o + 1) (fs := r) (f := f) (fun k y hy => by have := h (k + 1) y (by simpa using hy); rwa [show o + 1 + k = o + (k + 1) by omega])
    simp only [owed]; simp at h0; omega
theorem owed_pos {f : Nat → Nat} {o : Nat} {fs : List Nat} {k x : Nat} (h : fs[k]? = some x) (hx : x < f (o + k)) : 0 < owed f o fs := by
  have := owed_set h hx; omega
/-- what holds at a minute: who has arrived (os), how often each was answered (fs) -/
structure EvQ (n : Nat) (c : Int) (f : Nat → Nat) (pa : Nat → Bool) (os : List Nat) (top : Int) (s : Bk) (fs : List Nat) : Prop where
  b : BInv s
  m : s.M = []
  cap : s.cap = c
  wt : s.wait = 5
  len : fs.length = n
  olt : ∀ k ∈ os, k < n
  ent : ∀ e ∈ s.L, ∃ k x, k ∈ os ∧ pa k = true ∧ e.id = idq k ∧ fs[k]? = some x ∧ x ≤ f k ∧ e.due ≤ top ∧ 0 ≤ e.tries ∧ e.tries ≤ (x : Int)
  out : ∀ k ∈ os, pa k = true → idq k ∉ s.L.map Ent.id → fs[k]? = some (1 + f k) ∨ s.inc = true
  np : ∀ k x, fs[k]? = some x → x ≠ 0 → k ∈ os ∧ pa k = true
variable {n : Nat} {c : Int} {f : Nat → Nat} {pa : Nat → Bool} {os : List Nat} {now top : Int} {s : Bk} {fs : List Nat}
theorem EvQ.start (h : newOk c 5 = true) (n : Nat) (top : Int) : EvQ n c f pa [] top ⟨c, 5, false, [], []⟩ (List.replicate n 0) := ⟨.start h, rfl, rfl, rfl, by simp, by simp, by simp, by simp, fun k x h0 hx => by
  rw [List.getElem?_replicate] at h0
  split at h0
  · simp at h0; omega
  · cases h0⟩
theorem EvQ.wide (h : EvQ n c f pa os top s fs) {top' : Int} (ht : top ≤ top') : EvQ n c f pa os top' s fs := ⟨h.b, h.m, h.cap, h.wt, h.len, h.olt, fun e he => by
  obtain ⟨k, x, h1, h2, h3, h4, h5, h6, h7⟩ := h.ent e he
  exact ⟨k, x, h1, h2, h3, h4, h5, by omega, h7⟩, h.out, h.np⟩
theorem EvQ.fresh (h : EvQ n c f pa os top s fs) {k : Nat} (hk : k < n) (ho : k ∉ os) : fs[k]? = some 0 := by
  have hk' : k < fs.length := by rw [h.len]; exact hk
  have h1 := List.getElem?_eq_getElem hk'
  by_cases h0 : fs[k] = 0
  · rw [h1, h0]
  · exact absurd (h.np k _ h1 h0).1 ho
theorem EvQ.skip (h : EvQ n c f pa os top s fs) {k : Nat} (hk : k < n) (hp : pa k = false) : EvQ n c f pa (os ++ [k]) top s fs := ⟨h.b, h.m, h.cap, h.wt, h.len, fun j hj => by
  rcases List.mem_append.1 hj with hj | hj
  · exact h.olt j hj
  · simp at hj; omega, fun e he => by
  obtain ⟨j, x, h1, h2⟩ := h.ent e he
  exact ⟨j, x, List.mem_append_left _ h1, h2⟩, fun j hj hpj hjn => by
  rcases List.mem_append.1 hj with hj | hj
  · exact h.out j hj hpj hjn
  · simp at hj; subst hj; rw [hp] at hpj; exact Bool.noConfusion hpj, fun j x hj hx => ⟨List.mem_append_left _ (h.np j x hj hx).1, (h.np j x hj hx).2⟩⟩
theorem EvQ.arrive (h : EvQ n c f pa os top s fs) (hn : n ≤ 30) {k : Nat} (hk : k < n) (ho : k ∉ os) (hp : pa k = true) {due : Int} (hd : due ≤ top) (hm : isMin due = true) : EvQ n c f pa (os ++ [k]) top (addS s (idq k) due) fs := by
  have hf0 := h.fresh hk ho
  have hno : has (idq k) s.L = false := has_false.2 fun hm => by
    obtain ⟨e, he, hid⟩ := List.mem_map.1 hm
    obtain ⟨j, x, hj, _, hej, _⟩ := h.ent e he
    have hj' := h.olt j hj
    have := idq_inj (by omega) (by omega) (hej.symm.trans hid)
    subst this; exact ho hj
  have hold : ∀ e ∈ s.L, ∃ j x, j ∈ os ++ [k] ∧ pa j = true ∧ e.id = idq j ∧ fs[j]? = some x ∧ x ≤ f j ∧ e.due ≤ top ∧ 0 ≤ e.tries ∧ e.tries ≤ (x : Int) := fun e he => by
    obtain ⟨j, x, h1, h2⟩ := h.ent e he
    exact ⟨j, x, List.mem_append_left _ h1, h2⟩
  have hlt : ∀ j ∈ os ++ [k], j < n := fun j hj => by
    rcases List.mem_append.1 hj with hj | hj
    · exact h.olt j hj
    · simp at hj; omega
  have hnp : ∀ j x, fs[j]? = some x → x ≠ 0 → j ∈ os ++ [k] ∧ pa j = true := fun j x hj hx => ⟨List.mem_append_left _ (h.np j x hj hx).1, (h.np j x hj hx).2⟩
  have hb := h.b.add (idq k) due
  rcases add_cases s (idq k) due hm with ⟨_, _, _, _, e⟩ | ⟨_, _, _, _, e⟩ | ⟨_, e0, _⟩ | ⟨_, _, e0, _⟩
  · rw [e] at hb ⊢
    exact ⟨hb, h.m, h.cap, h.wt, h.len, hlt, hold, fun j _ _ _ => .inr rfl, hnp⟩
  · rw [e] at hb ⊢
    refine ⟨hb, h.m, h.cap, h.wt, h.len, hlt, fun e he => ?_, fun j hj hpj hjn => ?_, hnp⟩
    · rcases List.mem_append.1 he with he | he
      · exact hold e he
      · simp at he; subst he
        exact ⟨k, 0, by simp, hp, rfl, hf0, Nat.zero_le _, hd, Int.le_refl _, Int.le_refl _⟩
    · simp only [List.map_append, List.mem_append, not_or, List.map_cons, List.map_nil, List.mem_singleton] at hjn
      rcases List.mem_append.1 hj with hj | hj
      · exact h.out j hj hpj hjn.1
      · simp at hj; subst hj; exact absurd rfl hjn.2
  · exact absurd e0 (idq_nz _)
  · rw [hno] at e0; cases e0
theorem scan_run (now : Int) : ∀ (R : List (Vec 32)) (s : Bk) (i : Nat), BInv s → ∃ A x, runL (scStep now) scGo ⟨true, false, i, s⟩ R = x ∧ x.s = { s with L := s.L ++ A } ∧ BInv x.s ∧ (∀ e ∈ A, e.due = now ∧ e.tries = 0 ∧ e.id ∈ R ∧ has e.id s.L = false) ∧ (x.full = true → s.cap ≤ (s.L ++ A).length) ∧ (x.full = false → ∀ a ∈ R, a ≠ zid → has a (s.L ++ A) = true)
  | [], s, i, hb => ⟨[], _, rfl, by simp [runL], by simpa [runL] using hb, by simp, by simp [runL], by simp⟩
  | a :: R, s, i, hb => by
    rw [runL]
    by_cases h1 : a = zid ∨ has a s.L = true
    · have hg : scGo ⟨true, false, i, s⟩ a = true := by rw [scGo, if_neg Bool.noConfusion, if_pos h1]
      have hst : scStep now ⟨true, false, i, s⟩ a = ⟨true, false, i, s⟩ := by rw [scStep, if_neg Bool.noConfusion, if_pos h1]
      rw [if_pos hg, hst]
      obtain ⟨A, x, e1, e2, eb, e3, e4, e5⟩ := scan_run now R s i hb
      refine ⟨A, x, e1, e2, eb, fun e he => ⟨(e3 e he).1, (e3 e he).2.1, List.mem_cons_of_mem _ (e3 e he).2.2.1, (e3 e he).2.2.2⟩, e4, fun hx b hbm hz => ?_⟩
      rcases List.mem_cons.1 hbm with rfl | hbm
      · rcases h1 with h1 | h1
        · exact absurd h1 hz
        · rw [has_iff] at h1 ⊢; simp only [List.map_append, List.mem_append]; exact .inl h1
      · exact e5 hx b hbm hz
    · by_cases h2 : s.cap ≤ s.L.length
      · have hg : scGo ⟨true, false, i, s⟩ a = false := by rw [scGo, if_neg Bool.noConfusion, if_neg h1, if_pos h2]
        have hst : scStep now ⟨true, false, i, s⟩ a = ⟨false, true, i, s⟩ := by rw [scStep, if_neg Bool.noConfusion, if_neg h1, if_pos h2]
        rw [if_neg (by rw [hg]; decide), hst]
        exact ⟨[], _, rfl, by simp, by simpa using hb, by simp, fun _ => by simpa using h2, by simp⟩
      · have hg : scGo ⟨true, false, i, s⟩ a = true := by rw [scGo, if_neg Bool.noConfusion, if_neg h1, if_neg h2]
        have hst : scStep now ⟨true, false, i, s⟩ a = ⟨true, false, i + 1, { s with L := s.L ++ [⟨a, now, 0⟩] }⟩ := by rw [scStep, if_neg Bool.noConfusion, if_neg h1, if_neg h2]
        rw [if_pos hg, hst]
        have h1z : a ≠ zid := fun e => h1 (.inl e)
        have h1h : has a s.L = false := by
          cases hh : has a s.L with
          | false => rfl
          | true => exact absurd (.inr hh) h1
        have hb2 : BInv { s with L := s.L ++ [⟨a, now, 0⟩] } := hb.app (e := ⟨a, now, 0⟩) h1z h1h h2
        obtain ⟨A, x, e1, e2, eb, e3, e4, e5⟩ := scan_run now R { s with L := s.L ++ [⟨a, now, 0⟩] } (i + 1) hb2
        refine ⟨⟨a, now, 0⟩ :: A, x, e1, by rw [e2]; simp, eb, fun e he => ?_, fun hx => by have := e4 hx; simpa using this, fun hx b hbm hz => ?_⟩
        · rcases List.mem_cons.1 he with rfl | he
          · exact ⟨rfl, rfl, by simp, h1h⟩
          · obtain ⟨q1, q2, q3, q4⟩ := e3 e he
            refine ⟨q1, q2, List.mem_cons_of_mem _ q3, ?_⟩
            rw [has_false] at q4 ⊢
            intro hm
            exact q4 (by simp only [List.map_append, List.mem_append]; exact .inl hm)
        · rcases List.mem_cons.1 hbm with rfl | hbm
          · rw [has_iff]; simp
          · have := e5 hx b hbm hz; simpa using this
theorem BInv.inc {s : Bk} (h : BInv s) (i : Bool) : BInv { s with inc := i } := ⟨h.nd, h.nz, h.ok, h.le, h.mnd, h.msub⟩
theorem EvQ.scan (h : EvQ n c f pa os top s fs) (hn : n ≤ 30) {now : Int} (hm : isMin now = true) (ht : now ≤ top) {R : List (Vec 32)} (hR : ∀ a, a ∈ R ↔ ∃ k, k ∈ os ∧ pa k = true ∧ fs[k]? ≠ some (1 + f k) ∧ a = idq k) (hx : ∀ k x, fs[k]? = some x → x ≤ 1 + f k) :
    EvQ n c f pa os top (scanS s now R) fs ∧ ((scanS s now R).inc = true → c ≤ (scanS s now R).L.length) ∧ ∃ A, (scanS s now R).L = s.L ++ A ∧ ∀ e ∈ A, e.due = now := by
  obtain ⟨A, x, e1, e2, eb, e3, e4, e5⟩ := scan_run now R s 0 h.b
  have hS : scanS s now R = { s with L := s.L ++ A, inc := x.full } := by rw [scanS, if_pos hm, scL, e1, e2]
  rw [e2] at eb
  have hb := eb.inc x.full
  rw [hS]
  refine ⟨⟨hb, h.m, h.cap, h.wt, h.len, h.olt, fun e he => ?_, fun k hk hpk hkn => ?_, h.np⟩, fun hx => by rw [← h.cap]; exact e4 hx, A, rfl, fun e he => (e3 e he).1⟩
  · rcases List.mem_append.1 he with he | he
    · exact h.ent e he
    · obtain ⟨h1, h2, h3, h4⟩ := e3 e he
      obtain ⟨k, hk, hpk, hne, hek⟩ := (hR _).1 h3
      have hk' : k < fs.length := by rw [h.len]; exact h.olt k hk
      have hfk := List.getElem?_eq_getElem hk'
      have hxk := hx k _ hfk
      refine ⟨k, fs[k], hk, hpk, hek, hfk, ?_, by omega, by omega, by rw [h2]; omega⟩
      rcases Nat.lt_or_ge (fs[k]) (1 + f k) with h5 | h5
      · omega
      · exact absurd (by rw [hfk, show fs[k] = 1 + f k by omega]) hne
  · simp only [List.map_append, List.mem_append, not_or] at hkn
    rcases h.out k hk hpk hkn.1 with h1 | h1
    · exact .inl h1
    · by_cases hd : fs[k]? = some (1 + f k)
      · exact .inl hd
      · refine .inr ?_
        cases hx : x.full with
        | true => rfl
        | false =>
          have := e5 hx (idq k) ((hR _).2 ⟨k, hk, hpk, hd, rfl⟩) (idq_nz _)
          rw [has_iff] at this
          simp only [List.map_append, List.mem_append] at this
          exact absurd this (by simpa using hkn)
theorem EvQ.find (h : EvQ n c f pa os top s fs) {a : Vec 32} (ha : a ∈ s.L.map Ent.id) : ∃ k x, k ∈ os ∧ k < n ∧ pa k = true ∧ a = idq k ∧ fs[k]? = some x ∧ x ≤ f k := by
  obtain ⟨e, he, rfl⟩ := List.mem_map.1 ha
  obtain ⟨k, x, h1, h2, h3, h4, h5, _⟩ := h.ent e he
  exact ⟨k, x, h1, h.olt k h1, h2, h3, h4, h5⟩
theorem EvQ.off (h : EvQ n c f pa os top s fs) {a : Vec 32} (ha : a ∈ s.L.map Ent.id) : offE s a = 0 ∧ offS s a = { s with M := [(a, true)] } := by
  have h0 : offE s a = 0 := by
    rw [offE, if_neg (by rw [has_iff.2 ha]; decide), if_neg (by rw [Bk.out, h.m]; simp [lkM, findM])]
  exact ⟨h0, by rw [offS, if_pos h0, h.m]; rfl⟩
theorem EvQ.ans (h : EvQ n c f pa os top s fs) (hn : n ≤ 30) {k x : Nat} (hk : k ∈ os) (hpk : pa k = true) (ha : idq k ∈ s.L.map Ent.id) (hx : fs[k]? = some x) (hd : x + 1 = 1 + f k) :
    ansE { s with M := [(idq k, true)] } (idq k) = 0 ∧ EvQ n c f pa os top (ansS { s with M := [(idq k, true)] } (idq k)) (fs.set k (x + 1)) ∧ ansS { s with M := [(idq k, true)] } (idq k) = { s with L := remL (idq k) s.L } := by
  have hE : ansE { s with M := [(idq k, true)] } (idq k) = 0 := by
    rw [ansE, if_neg (by show ¬ has (idq k) s.L = false; rw [has_iff.2 ha]; decide), if_neg]
    simp [Bk.out, lkM, findM]
  have hS : ansS { s with M := [(idq k, true)] } (idq k) = { s with L := remL (idq k) s.L } := by
    rw [ansS, if_pos hE, remS, if_pos (by show has (idq k) s.L = true; exact has_iff.2 ha)]
    have : delM (idq k) [(idq k, true)] = [] := by simp [delM]
    rw [this]
    have := h.m
    cases s; simp_all
  have hb : BInv { s with L := remL (idq k) s.L } := by
    have := h.b.rem (idq k)
    rw [remS, if_pos (has_iff.2 ha), h.m] at this
    have hm := h.m
    cases s; simp only at hm; subst hm; exact this
  refine ⟨hE, ?_, hS⟩
  rw [hS]
  have hkn := h.olt k hk
  have hkl : k < fs.length := by rw [h.len]; exact hkn
  refine ⟨hb, h.m, h.cap, h.wt, by simp [h.len], h.olt, fun e he => ?_, fun j hj hpj hjn => ?_, fun j y hj hy => ?_⟩
  · have hel := (remL_sub (idq k) s.L).subset he
    obtain ⟨j, y, hj, hpj, hej, h1⟩ := h.ent e hel
    have hne : j ≠ k := by
      intro e0; subst e0
      exact remL_ids h.b.nd (List.mem_map.2 ⟨e, he, hej⟩)
    refine ⟨j, y, hj, hpj, hej, ?_⟩
    rw [List.getElem?_set_ne (by omega)]; exact h1
  · by_cases hjk : j = k
    · subst hjk
      left; rw [List.getElem?_set_self hkl, hd]
    · rw [List.getElem?_set_ne (by omega)]
      refine h.out j hj hpj fun hm => hjn ?_
      have := h.olt j hj
      exact (remL_other (fun e0 => hjk (idq_inj (by omega) (by omega) e0)) s.L).2 hm
  · by_cases hjk : j = k
    · subst hjk; exact ⟨hk, hpk⟩
    · rw [List.getElem?_set_ne (by omega)] at hj
      exact h.np j y hj hy
theorem EvQ.lat (h : EvQ n c f pa os top s fs) (hn : n ≤ 30) {k x : Nat} (hk : k ∈ os) (hpk : pa k = true) (ha : idq k ∈ s.L.map Ent.id) (hx : fs[k]? = some x) (hd : x + 1 ≤ f k) {now top' : Int} (htt : top ≤ top') (ht : now + 5 ≤ top') (hm1 : isMin now = true) (hm2 : isMin (now + 5) = true) :
    latE { s with M := [(idq k, true)] } (idq k) now = 0 ∧ EvQ n c f pa os top' (latS { s with M := [(idq k, true)] } (idq k) now) (fs.set k (x + 1)) ∧ ∃ t, latS { s with M := [(idq k, true)] } (idq k) now = { s with L := remL (idq k) s.L ++ [⟨idq k, now + 5, t⟩] } := by
  have hE : latE { s with M := [(idq k, true)] } (idq k) now = 0 := by
    rw [latE, if_neg (by show ¬ (isMin now = false ∨ isMin (now + s.wait) = false); rw [h.wt, hm1, hm2]; simp), if_neg (by show ¬ has (idq k) s.L = false; rw [has_iff.2 ha]; decide), if_neg]
    simp [Bk.out, lkM, findM]
  have hkn := h.olt k hk
  obtain ⟨t, ht1, ht2, ht3⟩ : ∃ t, triesOf { s with M := [(idq k, true)] } (idq k) = t ∧ 0 ≤ t ∧ t ≤ (x : Int) := by
    unfold triesOf
    show ∃ t, (match s.L.find? (isId (idq k)) with | some e => e.tries | none => 0) = t ∧ _
    cases hf : s.L.find? (isId (idq k)) with
    | none => exact ⟨0, rfl, Int.le_refl _, by omega⟩
    | some e =>
      have h1 := List.find?_some hf
      have h2 := List.mem_of_find?_eq_some hf
      obtain ⟨j, y, hj, _, hej, hy, _, _, q1, q2⟩ := h.ent e h2
      have h4 : e.id = idq k := of_decide_eq_true h1
      have hj' := h.olt j hj
      have hjk := idq_inj (by omega) (by omega) (hej.symm.trans h4)
      subst hjk
      rw [hx] at hy
      simp at hy; subst hy
      exact ⟨e.tries, rfl, q1, q2⟩
  have hS : latS { s with M := [(idq k, true)] } (idq k) now = { s with L := remL (idq k) s.L ++ [⟨idq k, now + 5, t + 1⟩] } := by
    rw [latS, if_pos hE, ht1, remS, if_pos (by show has (idq k) s.L = true; exact has_iff.2 ha)]
    have : delM (idq k) [(idq k, true)] = [] := by simp [delM]
    rw [this]
    have := h.m
    have := h.wt
    cases s; simp_all
  have hb : BInv { s with L := remL (idq k) s.L ++ [⟨idq k, now + 5, t + 1⟩] } := by
    have h1 := h.b.off (idq k)
    rw [(h.off ha).2] at h1
    have := h1.lat (idq k) now
    rwa [hS] at this
  refine ⟨hE, ?_, t + 1, hS⟩
  rw [hS]
  have hkl : k < fs.length := by rw [h.len]; exact hkn
  refine ⟨hb, h.m, h.cap, h.wt, by simp [h.len], h.olt, fun e he => ?_, fun j hj hpj hjn => ?_, fun j y hj hy => ?_⟩
  · rcases List.mem_append.1 he with he | he
    · have hel := (remL_sub (idq k) s.L).subset he
      obtain ⟨j, y, hj, hpj, hej, h1, h2, h3, h4⟩ := h.ent e hel
      have hne : j ≠ k := by
        intro e0; subst e0
        exact remL_ids h.b.nd (List.mem_map.2 ⟨e, he, hej⟩)
      refine ⟨j, y, hj, hpj, hej, ?_, h2, by omega, h4⟩
      rw [List.getElem?_set_ne (by omega)]; exact h1
    · simp at he; subst he
      exact ⟨k, x + 1, hk, hpk, rfl, List.getElem?_set_self hkl, hd, ht, by show 0 ≤ t + 1; omega, by show t + 1 ≤ _; push_cast; omega⟩
  · simp only [List.map_append, List.mem_append, not_or, List.map_cons, List.map_nil, List.mem_singleton] at hjn
    have hjk : j ≠ k := fun e0 => hjn.2 (by rw [e0])
    rw [List.getElem?_set_ne (by omega)]
    refine h.out j hj hpj fun hm => hjn.1 ?_
    have := h.olt j hj
    exact (remL_other (fun e0 => hjk (idq_inj (by omega) (by omega) e0)) s.L).2 hm
  · by_cases hjk : j = k
    · subst hjk; exact ⟨hk, hpk⟩
    · rw [List.getElem?_set_ne (by omega)] at hj
      exact h.np j y hj hy
/-! the number that falls -/
def headW (now : Int) : List Ent → Nat
  | [] => 0
  | e :: _ => (e.due - now).toNat
def gof (f : Nat → Nat) (pa : Nat → Bool) (k : Nat) : Nat := if pa k then 1 + f k else 0
def psi (f : Nat → Nat) (pa : Nat → Bool) (now : Int) (s : Bk) (fs : List Nat) : Nat := 5 * owed (gof f pa) 0 fs + headW now s.L + (if s.inc then 1 else 0)
/-- something was offered -/
theorem psi_some {s' s2 : Bk} {fs' : List Nat} (h' : EvQ n c f pa os top s' fs') (ht : top ≤ now + 5) (ho : owed (gof f pa) 0 fs' + 1 ≤ owed (gof f pa) 0 fs) (hi : s'.inc = true → s2.inc = true) : psi f pa (now + 1) s' fs' ≤ psi f pa now s2 fs - 1 := by
  have h1 : headW (now + 1) s'.L ≤ 4 := by
    cases hL : s'.L with
    | nil => simp [headW]
    | cons e r =>
      obtain ⟨k, x, _, _, _, _, _, h1, _⟩ := h'.ent e (by rw [hL]; simp)
      show (e.due - (now + 1)).toNat ≤ 4
      omega
  unfold psi
  cases hi1 : s'.inc with
  | false => simp; omega
  | true => rw [hi hi1]; simp; omega
/-- nothing was due -/
theorem psi_none (hc : 1 ≤ c) {s1 : Bk} {A : List Ent} (h : EvQ n c f pa os top s1 fs) (hall : ∀ k, k < n → k ∈ os) (hL : s1.L = s.L ++ A) (hA : ∀ e ∈ A, e.due = now) (hfull : s1.inc = true → c ≤ s1.L.length) (hi : s1.inc = true → s.inc = true) (hno : ∀ e ∈ s1.L, now < e.due) : psi f pa (now + 1) s1 fs ≤ psi f pa now s fs - 1 := by
  have hA0 : A = [] := by
    cases A with
    | nil => rfl
    | cons e r =>
      have h1 := hA e (by simp)
      have h2 := hno e (by rw [hL]; simp)
      omega
  subst hA0
  rw [List.append_nil] at hL
  unfold psi
  rw [hL]
  cases hs : s.L with
  | nil =>
    rw [hs] at hL
    have hinc : s1.inc = false := by
      cases hi1 : s1.inc with
      | false => rfl
      | true => have := hfull hi1; rw [hL] at this; simp at this; omega
    have ho : owed (gof f pa) 0 fs = 0 := owed_zero fun k x hk => by
      have hkn : k < n := by rw [← h.len]; exact (List.getElem?_eq_some_iff.1 hk).1
      rw [Nat.zero_add]
      unfold gof
      cases hp : pa k with
      | false => simp
      | true =>
        rcases h.out k (hall k hkn) hp (by rw [hL]; simp) with h1 | h1
        · rw [hk] at h1; simp at h1; subst h1; simp
        · rw [hinc] at h1; simp at h1
    rw [ho, hinc]; simp [headW]
  | cons e r =>
    have h2 := hno e (by rw [hL, hs]; simp)
    simp only [headW]
    cases hi1 : s1.inc with
    | false => simp; split <;> omega
    | true => rw [hi hi1]; simp; omega
theorem psi_le (h : EvQ n c f pa os top s fs) (hn : n ≤ 30) (hf : ∀ k, f k ≤ 2) (ht : top ≤ now + 4) : psi f pa now s fs ≤ 455 := by
  have h1 : headW now s.L ≤ 4 := by
    cases hL : s.L with
    | nil => simp [headW]
    | cons e r =>
      obtain ⟨k, x, _, _, _, _, _, h1, _⟩ := h.ent e (by rw [hL]; simp)
      show (e.due - now).toNat ≤ 4
      omega
  have h2 := owed_le (f := gof f pa) (fun k => by have := hf k; unfold gof; split <;> omega) 0 fs
  rw [h.len] at h2
  unfold psi
  split <;> omega
theorem psi_end (h : EvQ n c f pa os top s fs) (hall : ∀ k, k < n → k ∈ os) (h0 : psi f pa now s fs = 0) : s.L = [] ∧ s.inc = false ∧ ∀ k, k < n → fs[k]? = some (gof f pa k) := by
  have ho : owed (gof f pa) 0 fs = 0 := by unfold psi at h0; omega
  have hinc : s.inc = false := by
    cases hi : s.inc with
    | false => rfl
    | true => unfold psi at h0; rw [hi] at h0; simp at h0
  have hL : s.L = [] := by
    cases hL : s.L with
    | nil => rfl
    | cons e r =>
      obtain ⟨k, x, _, hp, _, hx, hxf, _⟩ := h.ent e (by rw [hL]; simp)
      have := owed_pos (o := 0) (f := gof f pa) hx (by rw [Nat.zero_add, gof, hp, if_pos rfl]; omega)
      omega
  refine ⟨hL, hinc, fun k hk => ?_⟩
  unfold gof
  have hkl : k < fs.length := by rw [h.len]; exact hk
  cases hp : pa k with
  | true =>
    rcases h.out k (hall k hk) hp (by rw [hL]; simp) with h1 | h1
    · rw [h1]; rfl
    · rw [hinc] at h1; simp at h1
  | false =>
    have h1 := List.getElem?_eq_getElem hkl
    by_cases hz : fs[k] = 0
    · rw [h1, hz]; rfl
    · have := (h.np k _ h1 hz).2
      rw [hp] at this; cases this
/-! the two maps of the law -/
structure MpQ (n : Nat) (f : Nat → Nat) (fs : List Nat) (AM : List (Vec 32 × Bool)) (TM : List (Vec 32 × Int)) : Prop where
  a : ∀ k, k < n → (lkM AM (idq k)).getD false = decide (fs.getD k 0 = 1 + f k)
  t : ∀ k, k < n → (lkM TM (idq k)).getD 0 = ((fs.getD k 0 : Nat) : Int)
  x : ∀ k y, fs[k]? = some y → y ≤ 1 + f k
theorem MpQ.start : MpQ n f (List.replicate n 0) [] [] := ⟨fun k hk => by simp [hk]; omega, fun k hk => by simp [hk], fun k y h => by
  rw [List.getElem?_replicate] at h
  split at h
  · simp at h; omega
  · cases h⟩
theorem getD_set {fs : List Nat} {k j x : Nat} (hk : k < fs.length) : (fs.set k x).getD j 0 = if j = k then x else fs.getD j 0 := by
  by_cases h : j = k
  · subst h; simp [hk]
  · rw [if_neg h, List.getD_eq_getElem?_getD, List.getElem?_set_ne (by omega), ← List.getD_eq_getElem?_getD]
theorem set_x {fs : List Nat} {k x : Nat} (hx : ∀ k y, fs[k]? = some y → y ≤ 1 + f k) (h : x ≤ 1 + f k) : ∀ j y, (fs.set k x)[j]? = some y → y ≤ 1 + f j := fun j y hj => by
  rw [List.getElem?_set] at hj
  split at hj
  · rename_i e; subst e
    split at hj
    · simp at hj; omega
    · cases hj
  · exact hx j y hj
theorem MpQ.later {AM : List (Vec 32 × Bool)} {TM : List (Vec 32 × Int)} (h : MpQ n f fs AM TM) (hn : n ≤ 30) (hl : fs.length = n) {k x : Nat} (hk : k < n) (hx : fs[k]? = some x) (hd : x + 1 ≤ f k) : MpQ n f (fs.set k (x + 1)) AM (putM (idq k) ((x + 1 : Nat) : Int) TM) := by
  have hkx : fs.getD k 0 = x := by simp [hx]
  refine ⟨fun j hj => ?_, fun j hj => ?_, set_x h.x (by omega)⟩
  · rw [h.a j hj, getD_set (by omega)]
    by_cases e : j = k
    · subst e; rw [if_pos rfl, hkx, decide_eq_decide]; omega
    · rw [if_neg e]
  · rw [lkM_put, getD_set (by omega)]
    by_cases e : j = k
    · subst e; rw [if_pos rfl, if_pos rfl]; rfl
    · rw [if_neg e, if_neg (fun e0 => e (idq_inj (by omega) (by omega) e0))]; exact h.t j hj
theorem MpQ.answer {AM : List (Vec 32 × Bool)} {TM : List (Vec 32 × Int)} (h : MpQ n f fs AM TM) (hn : n ≤ 30) (hl : fs.length = n) {k x : Nat} (hk : k < n) (_hx : fs[k]? = some x) (hd : x + 1 = 1 + f k) : MpQ n f (fs.set k (x + 1)) (putM (idq k) true AM) (putM (idq k) ((x + 1 : Nat) : Int) TM) := by
  refine ⟨fun j hj => ?_, fun j hj => ?_, set_x h.x (by omega)⟩
  · rw [lkM_put, getD_set (by omega)]
    by_cases e : j = k
    · subst e; rw [if_pos rfl, if_pos rfl, decide_eq_true hd]; rfl
    · rw [if_neg e, if_neg (fun e0 => e (idq_inj (by omega) (by omega) e0))]; exact h.a j hj
  · rw [lkM_put, getD_set (by omega)]
    by_cases e : j = k
    · subst e; rw [if_pos rfl, if_pos rfl]; rfl
    · rw [if_neg e, if_neg (fun e0 => e (idq_inj (by omega) (by omega) e0))]; exact h.t j hj
theorem putM_new {κ ν : Type} [DecidableEq κ] {k : κ} {v : ν} : ∀ {M : List (κ × ν)}, k ∉ M.map (·.1) → putM k v M = M ++ [(k, v)]
  | [], _ => rfl
  | p :: M, h => by
    simp only [List.map_cons, List.mem_cons, not_or] at h
    obtain ⟨a, b⟩ := p
    rw [putM, if_neg (by exact h.1), putM_new h.2]; rfl
end Go.Proofs.YtifghjeapfijkaaGreatDoor
