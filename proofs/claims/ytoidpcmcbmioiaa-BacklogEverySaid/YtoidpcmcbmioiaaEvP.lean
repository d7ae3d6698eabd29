/-
  BacklogEvery, the plain part: what holds at every minute, and the number that falls.
-/
import Derived.Test.YtoidpcmcbmioiaaSim38
namespace Go.Proofs.Ytoidpcmcbmioiaa
open Go.Eng Go.RowKit

def idn (k : Nat) : Vec 32 := vid (UInt8.ofNat (k + 1))
theorem idn_inj {k j : Nat} (hk : k < 40) (hj : j < 40) (h : idn k = idn j) : k = j := by
  have h1 : (idn k).1 = (idn j).1 := by rw [h]
  simp only [idn, vid, List.cons.injEq, and_true] at h1
  have h2 := congrArg UInt8.toNat h1
  simp only [UInt8.toNat_ofNat'] at h2
  omega
theorem idn_nz {k : Nat} (hk : k < 40) : idn k ≠ zid := by
  intro h
  have h1 : (idn k).1 = zid.1 := by rw [h]
  simp only [idn, vid, zid] at h1
  rw [show List.replicate 32 (0 : UInt8) = 0 :: List.replicate 31 0 from rfl] at h1
  simp only [List.cons.injEq, and_true] at h1
  have h2 := congrArg UInt8.toNat h1
  simp only [UInt8.toNat_ofNat'] at h2
  have : (0 : UInt8).toNat = 0 := rfl
  omega
/-- offers that are still owed -/
def owed (f : Nat → Nat) : Nat → List Nat → Nat
  | _, [] => 0
  | o, x :: r => (1 + f o - x) + owed f (o + 1) r
theorem owed_set {f : Nat → Nat} : ∀ {o : Nat} {fs : List Nat} {k x : Nat}, fs[k]? = some x → x ≤ f (o + k) → owed f o (fs.set k (x + 1)) + 1 = owed f o fs
  | _, [], k, x, h, _ => by simp at h
  | o, z :: r, 0, x, h, hx => by
    simp at h; subst h
    simp only [List.set_cons_zero, owed]
    simp at hx; omega
  | o, z :: r, k + 1, x, h, hx => by
    simp only [List.set_cons_succ, owed]
    have := owed_set (o := o + 1) (fs := r) (k := k) (x := x) (f := f) (by simpa using h) (by rw [show o + 1 + k = o + (k + 1) by omega]; exact hx)
    omega
theorem owed_le {f : Nat → Nat} (hf : ∀ k, f k ≤ 1) : ∀ (o : Nat) (fs : List Nat), owed f o fs ≤ 2 * fs.length
  | _, [] => by simp [owed]
  | o, x :: r => by have := owed_le hf (o + 1) r; have := hf o; simp only [owed, List.length_cons]; omega
theorem owed_zero {f : Nat → Nat} : ∀ {o : Nat} {fs : List Nat}, (∀ k x, fs[k]? = some x → 1 + f (o + k) ≤ x) → owed f o fs = 0
  | _, [], _ => rfl
  | o, x :: r, h => by
    have h0 := h 0 x rfl
    have := owed_zero (o := o + 1) (fs := r) (f := f) (fun k y hy => by have := h (k + 1) y (by simpa using hy); rwa [show o + 1 + k = o + (k + 1) by omega])
    simp only [owed]; simp at h0; omega
theorem owed_pos {f : Nat → Nat} : ∀ {o : Nat} {fs : List Nat} {k x : Nat}, fs[k]? = some x → x ≤ f (o + k) → 0 < owed f o fs := fun h hx => by
  have := owed_set h hx; omega
/-- what holds at a minute -/
structure EvI (n : Nat) (c : Int) (f : Nat → Nat) (now top : Int) (s : Bk) (fs : List Nat) : Prop where
  b : BInv s
  m : s.M = []
  cap : s.cap = c
  wt : s.wait = 4
  len : fs.length = n
  ent : ∀ e ∈ s.L, ∃ k, k < n ∧ e.id = idn k ∧ ((fs[k]? = some 0 ∧ e.due ≤ now ∧ e.tries = 0) ∨ (fs[k]? = some 1 ∧ f k = 1 ∧ e.due ≤ top ∧ e.tries = 1))
  out : ∀ k, k < n → idn k ∉ s.L.map Ent.id → fs[k]? = some (1 + f k) ∨ (fs[k]? = some 0 ∧ s.inc = true)
variable {n : Nat} {c : Int} {f : Nat → Nat} {now top : Int} {s : Bk} {fs : List Nat}
theorem EvI.start (h : newOk c 4 = true) : EvI 0 c f 0 0 ⟨c, 4, false, [], []⟩ [] := ⟨.start h, rfl, rfl, rfl, rfl, by simp, by omega⟩
theorem EvI.add {i : Nat} (h : EvI i c f 0 0 s (List.replicate i 0)) (hi : i < 39) : EvI (i + 1) c f 0 0 (addS s (idn i) 0) (List.replicate (i + 1) 0) := by
  have hg : ∀ k, k < i + 1 → (List.replicate (i + 1) 0)[k]? = some 0 := fun k hk => by rw [List.getElem?_replicate, if_pos hk]
  have hn : has (idn i) s.L = false := has_false.2 fun hm => by
    obtain ⟨e, he, hid⟩ := List.mem_map.1 hm
    obtain ⟨k, hk, hek, _⟩ := h.ent e he
    have := idn_inj (by omega) (by omega) (hek.symm.trans hid); omega
  have hold : ∀ e ∈ s.L, ∃ k, k < i + 1 ∧ e.id = idn k ∧ (((List.replicate (i + 1) 0)[k]? = some 0 ∧ e.due ≤ 0 ∧ e.tries = 0) ∨ ((List.replicate (i + 1) 0)[k]? = some 1 ∧ f k = 1 ∧ e.due ≤ 0 ∧ e.tries = 1)) := fun e he => by
    obtain ⟨k, hk, hek, h1⟩ := h.ent e he
    refine ⟨k, by omega, hek, .inl ⟨hg k (by omega), ?_⟩⟩
    rcases h1 with h1 | h1
    · exact h1.2
    · have := h1.1; rw [List.getElem?_replicate, if_pos hk] at this; simp at this
  rcases add_cases s (idn i) 0 (by decide) with ⟨_, _, _, _, e⟩ | ⟨_, _, _, _, e⟩ | ⟨_, e0, _⟩ | ⟨_, _, e0, _⟩
  · have hb := h.b.add (idn i) 0
    rw [e] at hb ⊢
    exact ⟨hb, h.m, h.cap, h.wt, by simp, hold, fun k hk _ => .inr ⟨hg k hk, rfl⟩⟩
  · have hb := h.b.add (idn i) 0
    rw [e] at hb ⊢
    refine ⟨hb, h.m, h.cap, h.wt, by simp, fun e he => ?_, fun k hk hkn => ?_⟩
    · rcases List.mem_append.1 he with he | he
      · exact hold e he
      · simp at he; subst he
        exact ⟨i, by omega, rfl, .inl ⟨hg i (by omega), Int.le_refl _, rfl⟩⟩
    · simp only [List.map_append, List.mem_append, not_or, List.map_cons, List.map_nil, List.mem_singleton] at hkn
      have hki : k ≠ i := fun e0 => hkn.2 (by rw [e0])
      refine .inr ⟨hg k hk, ?_⟩
      rcases h.out k (by omega) hkn.1 with h1 | h1
      · rw [List.getElem?_replicate, if_pos (by omega)] at h1; simp at h1; omega
      · exact h1.2
  · exact absurd e0 (idn_nz (by omega))
  · rw [hn] at e0; cases e0
/-- what was never offered -/
def restL (fs : List Nat) (i : Nat) : List (Vec 32) := ((List.range i).filter fun k => decide (fs[k]? = some 0)).map idn
theorem restL_snoc (i : Nat) : restL fs (i + 1) = restL fs i ++ (if fs[i]? = some 0 then [idn i] else []) := by
  unfold restL
  rw [List.range_succ, List.filter_append, List.map_append]
  by_cases h : fs[i]? = some 0 <;> simp [h]
theorem restL_le (i : Nat) : (restL fs i).length ≤ i := by
  unfold restL; rw [List.length_map]
  have := List.length_filter_le (fun k => decide (fs[k]? = some 0)) (List.range i); simp at this; exact this
theorem restL_mem {i : Nat} {a : Vec 32} : a ∈ restL fs i ↔ ∃ k, k < i ∧ fs[k]? = some 0 ∧ a = idn k := by
  unfold restL
  constructor
  · intro h
    obtain ⟨k, hk, rfl⟩ := List.mem_map.1 h
    obtain ⟨h1, h2⟩ := List.mem_filter.1 hk
    exact ⟨k, by simpa using h1, by simpa using h2, rfl⟩
  · rintro ⟨k, h1, h2, rfl⟩
    exact List.mem_map.2 ⟨k, List.mem_filter.2 ⟨by simpa using h1, by simpa using h2⟩, rfl⟩
theorem scan_run (now : Int) : ∀ (R : List (Vec 32)) (s : Bk) (i : Nat), ∃ A x, runL (scStep now) scGo ⟨true, false, i, s⟩ R = x ∧ x.s = { s with L := s.L ++ A } ∧ (∀ e ∈ A, e.due = now ∧ e.tries = 0 ∧ e.id ∈ R) ∧ (x.full = true → s.cap ≤ (s.L ++ A).length) ∧ (x.full = false → ∀ a ∈ R, a ≠ zid → has a (s.L ++ A) = true)
  | [], s, i => ⟨[], _, rfl, by simp [runL], by simp, by simp [runL], by simp⟩
  | a :: R, s, i => by
    rw [runL]
    by_cases h1 : a = zid ∨ has a s.L = true
    · have hg : scGo ⟨true, false, i, s⟩ a = true := by rw [scGo, if_neg Bool.noConfusion, if_pos h1]
      have hst : scStep now ⟨true, false, i, s⟩ a = ⟨true, false, i, s⟩ := by rw [scStep, if_neg Bool.noConfusion, if_pos h1]
      rw [if_pos hg, hst]
      obtain ⟨A, x, e1, e2, e3, e4, e5⟩ := scan_run now R s i
      refine ⟨A, x, e1, e2, fun e he => ⟨(e3 e he).1, (e3 e he).2.1, List.mem_cons_of_mem _ (e3 e he).2.2⟩, e4, fun hx b hb hz => ?_⟩
      rcases List.mem_cons.1 hb with rfl | hb
      · rcases h1 with h1 | h1
        · exact absurd h1 hz
        · rw [has_iff] at h1 ⊢; simp only [List.map_append, List.mem_append]; exact .inl h1
      · exact e5 hx b hb hz
    · by_cases h2 : s.cap ≤ s.L.length
      · have hg : scGo ⟨true, false, i, s⟩ a = false := by rw [scGo, if_neg Bool.noConfusion, if_neg h1, if_pos h2]
        have hst : scStep now ⟨true, false, i, s⟩ a = ⟨false, true, i, s⟩ := by rw [scStep, if_neg Bool.noConfusion, if_neg h1, if_pos h2]
        rw [if_neg (by rw [hg]; decide), hst]
        exact ⟨[], _, rfl, by simp, by simp, fun _ => by simpa using h2, by simp⟩
      · have hg : scGo ⟨true, false, i, s⟩ a = true := by rw [scGo, if_neg Bool.noConfusion, if_neg h1, if_neg h2]
        have hst : scStep now ⟨true, false, i, s⟩ a = ⟨true, false, i + 1, { s with L := s.L ++ [⟨a, now, 0⟩] }⟩ := by rw [scStep, if_neg Bool.noConfusion, if_neg h1, if_neg h2]
        rw [if_pos hg, hst]
        obtain ⟨A, x, e1, e2, e3, e4, e5⟩ := scan_run now R { s with L := s.L ++ [⟨a, now, 0⟩] } (i + 1)
        refine ⟨⟨a, now, 0⟩ :: A, x, e1, by rw [e2]; simp, fun e he => ?_, fun hx => by have := e4 hx; simpa using this, fun hx b hb hz => ?_⟩
        · rcases List.mem_cons.1 he with rfl | he
          · exact ⟨rfl, rfl, by simp⟩
          · exact ⟨(e3 e he).1, (e3 e he).2.1, List.mem_cons_of_mem _ (e3 e he).2.2⟩
        · rcases List.mem_cons.1 hb with rfl | hb
          · rw [has_iff]; simp
          · have := e5 hx b hb hz; simpa using this
theorem EvI.scan (h : EvI n c f now top s fs) (hn : n ≤ 39) (hm : isMin now = true) : EvI n c f now top (scanS s now (restL fs n)) fs ∧ ((scanS s now (restL fs n)).inc = true → c ≤ (scanS s now (restL fs n)).L.length) ∧ ∃ A, (scanS s now (restL fs n)).L = s.L ++ A ∧ ∀ e ∈ A, e.due = now := by
  have hb := (scan_vw h.b (restL fs n) now).2.1
  obtain ⟨A, x, e1, e2, e3, e4, e5⟩ := scan_run now (restL fs n) s 0
  have hS : scanS s now (restL fs n) = { s with L := s.L ++ A, inc := x.full } := by rw [scanS, if_pos hm, scL, e1, e2]
  rw [hS] at hb ⊢
  refine ⟨⟨hb, h.m, h.cap, h.wt, h.len, fun e he => ?_, fun k hk hkn => ?_⟩, fun hx => by rw [← h.cap]; exact e4 hx, A, rfl, fun e he => (e3 e he).1⟩
  · rcases List.mem_append.1 he with he | he
    · exact h.ent e he
    · obtain ⟨h1, h2, h3⟩ := e3 e he
      obtain ⟨k, hk, hk0, hek⟩ := restL_mem.1 h3
      exact ⟨k, hk, hek, .inl ⟨hk0, by omega, h2⟩⟩
  · simp only [List.map_append, List.mem_append, not_or] at hkn
    rcases h.out k hk hkn.1 with h1 | h1
    · exact .inl h1
    · refine .inr ⟨h1.1, ?_⟩
      cases hx : x.full with
      | true => rfl
      | false =>
        have := e5 hx (idn k) (restL_mem.2 ⟨k, hk, h1.1, rfl⟩) (idn_nz (by omega))
        rw [has_iff] at this
        simp only [List.map_append, List.mem_append] at this
        exact absurd this (by simpa using hkn)
/-- one offer: Offered, then Later or Answered -/
theorem EvI.find (h : EvI n c f now top s fs) {a : Vec 32} (ha : a ∈ s.L.map Ent.id) : ∃ k x, k < n ∧ a = idn k ∧ fs[k]? = some x ∧ x ≤ f k ∧ (x = 0 ∨ (x = 1 ∧ f k = 1)) := by
  obtain ⟨e, he, rfl⟩ := List.mem_map.1 ha
  obtain ⟨k, hk, hek, h1⟩ := h.ent e he
  rcases h1 with h1 | h1
  · exact ⟨k, 0, hk, hek, h1.1, Nat.zero_le _, .inl rfl⟩
  · exact ⟨k, 1, hk, hek, h1.1, by omega, .inr ⟨rfl, h1.2.1⟩⟩
theorem EvI.off (h : EvI n c f now top s fs) {a : Vec 32} (ha : a ∈ s.L.map Ent.id) : offE s a = 0 ∧ offS s a = { s with M := [(a, true)] } := by
  have h0 : offE s a = 0 := by
    rw [offE, if_neg (by rw [has_iff.2 ha]; decide), if_neg (by rw [Bk.out, h.m]; simp [lkM, findM])]
  exact ⟨h0, by rw [offS, if_pos h0, h.m]; rfl⟩
theorem EvI.ans (h : EvI n c f now top s fs) (hn : n ≤ 39) {k x : Nat} (hk : k < n) (ha : idn k ∈ s.L.map Ent.id) (hx : fs[k]? = some x) (hd : x + 1 = 1 + f k) :
    ansE { s with M := [(idn k, true)] } (idn k) = 0 ∧ EvI n c f now top (ansS { s with M := [(idn k, true)] } (idn k)) (fs.set k (x + 1)) ∧ ansS { s with M := [(idn k, true)] } (idn k) = { s with L := remL (idn k) s.L } := by
  have hE : ansE { s with M := [(idn k, true)] } (idn k) = 0 := by
    rw [ansE, if_neg (by show ¬ has (idn k) s.L = false; rw [has_iff.2 ha]; decide), if_neg]
    simp [Bk.out, lkM, findM]
  have hS : ansS { s with M := [(idn k, true)] } (idn k) = { s with L := remL (idn k) s.L } := by
    rw [ansS, if_pos hE, remS, if_pos (by show has (idn k) s.L = true; exact has_iff.2 ha)]
    have : delM (idn k) [(idn k, true)] = [] := by simp [delM]
    rw [this]
    have := h.m
    cases s; simp_all
  have hb : BInv { s with L := remL (idn k) s.L } := by
    have := h.b.rem (idn k)
    rw [remS, if_pos (has_iff.2 ha), h.m] at this
    have hm := h.m
    cases s; simp only at hm; subst hm; exact this
  refine ⟨hE, ?_, hS⟩
  rw [hS]
  have hkl : k < fs.length := by rw [h.len]; exact hk
  refine ⟨hb, h.m, h.cap, h.wt, by simp [h.len], fun e he => ?_, fun j hj hjn => ?_⟩
  · have hel := (remL_sub (idn k) s.L).subset he
    obtain ⟨j, hj, hej, h1⟩ := h.ent e hel
    have hne : j ≠ k := by
      intro e0; subst e0
      exact remL_ids h.b.nd (List.mem_map.2 ⟨e, he, hej⟩)
    refine ⟨j, hj, hej, ?_⟩
    rw [List.getElem?_set_ne (by omega)]; exact h1
  · by_cases hjk : j = k
    · subst hjk
      left; rw [List.getElem?_set_self hkl, hd]
    · rw [List.getElem?_set_ne (by omega)]
      refine h.out j hj fun hm => hjn ?_
      exact (remL_other (fun e0 => hjk (idn_inj (by omega) (by omega) e0)) s.L).2 hm
theorem EvI.lat (h : EvI n c f now top s fs) (hn : n ≤ 39) {k : Nat} (hk : k < n) (ha : idn k ∈ s.L.map Ent.id) (hx : fs[k]? = some 0) (hd : f k = 1) (ht : now + 4 ≤ top) (hm1 : isMin now = true) (hm2 : isMin (now + 4) = true) :
    latE { s with M := [(idn k, true)] } (idn k) now = 0 ∧ EvI n c f now top (latS { s with M := [(idn k, true)] } (idn k) now) (fs.set k 1) ∧ latS { s with M := [(idn k, true)] } (idn k) now = { s with L := remL (idn k) s.L ++ [⟨idn k, now + 4, 1⟩] } := by
  have hE : latE { s with M := [(idn k, true)] } (idn k) now = 0 := by
    rw [latE, if_neg (by show ¬ (isMin now = false ∨ isMin (now + s.wait) = false); rw [h.wt, hm1, hm2]; simp), if_neg (by show ¬ has (idn k) s.L = false; rw [has_iff.2 ha]; decide), if_neg]
    simp [Bk.out, lkM, findM]
  have htr : triesOf { s with M := [(idn k, true)] } (idn k) = 0 := by
    unfold triesOf
    show (match s.L.find? (isId (idn k)) with | some e => e.tries | none => 0) = 0
    cases hf : s.L.find? (isId (idn k)) with
    | none => rfl
    | some e =>
      have h1 := List.find?_some hf
      have h2 := List.mem_of_find?_eq_some hf
      obtain ⟨j, hj, hej, h3⟩ := h.ent e h2
      have h4 : e.id = idn k := of_decide_eq_true h1
      have hjk := idn_inj (by omega) (by omega) (hej.symm.trans h4)
      subst hjk
      rcases h3 with h3 | h3
      · exact h3.2.2
      · rw [hx] at h3; simp at h3
  have hS : latS { s with M := [(idn k, true)] } (idn k) now = { s with L := remL (idn k) s.L ++ [⟨idn k, now + 4, 1⟩] } := by
    rw [latS, if_pos hE, htr, remS, if_pos (by show has (idn k) s.L = true; exact has_iff.2 ha)]
    have : delM (idn k) [(idn k, true)] = [] := by simp [delM]
    rw [this]
    have := h.m
    have := h.wt
    cases s; simp_all
  have hb : BInv { s with L := remL (idn k) s.L ++ [⟨idn k, now + 4, 1⟩] } := by
    have h1 := h.b.off (idn k)
    rw [(h.off ha).2] at h1
    have := h1.lat (idn k) now
    rwa [hS] at this
  refine ⟨hE, ?_, hS⟩
  rw [hS]
  have hkl : k < fs.length := by rw [h.len]; exact hk
  refine ⟨hb, h.m, h.cap, h.wt, by simp [h.len], fun e he => ?_, fun j hj hjn => ?_⟩
  · rcases List.mem_append.1 he with he | he
    · have hel := (remL_sub (idn k) s.L).subset he
      obtain ⟨j, hj, hej, h1⟩ := h.ent e hel
      have hne : j ≠ k := by
        intro e0; subst e0
        exact remL_ids h.b.nd (List.mem_map.2 ⟨e, he, hej⟩)
      refine ⟨j, hj, hej, ?_⟩
      rw [List.getElem?_set_ne (by omega)]; exact h1
    · simp at he; subst he
      exact ⟨k, hk, rfl, .inr ⟨List.getElem?_set_self hkl, hd, ht, rfl⟩⟩
  · simp only [List.map_append, List.mem_append, not_or, List.map_cons, List.map_nil, List.mem_singleton] at hjn
    have hjk : j ≠ k := fun e0 => hjn.2 (by rw [e0])
    rw [List.getElem?_set_ne (by omega)]
    refine h.out j hj fun hm => hjn.1 ?_
    exact (remL_other (fun e0 => hjk (idn_inj (by omega) (by omega) e0)) s.L).2 hm
/-! the number that falls -/
def headW (now : Int) : List Ent → Nat
  | [] => 0
  | e :: _ => (e.due - now).toNat
def psi (f : Nat → Nat) (now : Int) (s : Bk) (fs : List Nat) : Nat := 4 * owed f 0 fs + headW now s.L + (if s.inc then 1 else 0)
theorem EvI.up (h : EvI n c f now (now + 4) s fs) : EvI n c f (now + 1) (now + 1 + 3) s fs := ⟨h.b, h.m, h.cap, h.wt, h.len, fun e he => by
  obtain ⟨k, hk, hek, h1⟩ := h.ent e he
  refine ⟨k, hk, hek, ?_⟩
  rcases h1 with h1 | h1
  · exact .inl ⟨h1.1, by omega, h1.2.2⟩
  · exact .inr ⟨h1.1, h1.2.1, by omega, h1.2.2.2⟩, h.out⟩
theorem EvI.wide (h : EvI n c f now (now + 3) s fs) : EvI n c f now (now + 4) s fs := ⟨h.b, h.m, h.cap, h.wt, h.len, fun e he => by
  obtain ⟨k, hk, hek, h1⟩ := h.ent e he
  refine ⟨k, hk, hek, ?_⟩
  rcases h1 with h1 | h1
  · exact .inl h1
  · exact .inr ⟨h1.1, h1.2.1, by omega, h1.2.2.2⟩, h.out⟩
/-- something was offered -/
theorem psi_some {s' s2 : Bk} {fs' : List Nat} (h' : EvI n c f now (now + 4) s' fs') (ho : owed f 0 fs' + 1 ≤ owed f 0 fs) (hi : s'.inc = true → s2.inc = true) : psi f (now + 1) s' fs' ≤ psi f now s2 fs - 1 := by
  have h1 : headW (now + 1) s'.L ≤ 3 := by
    cases hL : s'.L with
    | nil => simp [headW]
    | cons e r =>
      obtain ⟨k, _, _, h1⟩ := h'.ent e (by rw [hL]; simp)
      show (e.due - (now + 1)).toNat ≤ 3
      rcases h1 with h1 | h1 <;> omega
  unfold psi
  cases hi1 : s'.inc with
  | false => simp; omega
  | true => rw [hi hi1]; simp; omega
/-- nothing was due -/
theorem psi_none (hc : 1 ≤ c) {s1 : Bk} {A : List Ent} (h : EvI n c f now (now + 3) s1 fs) (hL : s1.L = s.L ++ A) (hA : ∀ e ∈ A, e.due = now) (hfull : s1.inc = true → c ≤ s1.L.length) (hi : s1.inc = true → s.inc = true) (hno : ∀ e ∈ s1.L, now < e.due) : psi f (now + 1) s1 fs ≤ psi f now s fs - 1 := by
  have hA0 : A = [] := by
    cases A with
    | nil => rfl
    | cons e r =>
      have h1 := hA e (by simp)
      have h2 := hno e (by rw [hL]; simp)
      omega
  subst hA0
  rw [List.append_nil] at hL
  unfold psi
  rw [hL]
  cases hs : s.L with
  | nil =>
    rw [hs] at hL
    have hinc : s1.inc = false := by
      cases hi1 : s1.inc with
      | false => rfl
      | true => have := hfull hi1; rw [hL] at this; simp at this; omega
    have ho : owed f 0 fs = 0 := owed_zero fun k x hk => by
      have hkn : k < n := by rw [← h.len]; exact (List.getElem?_eq_some_iff.1 hk).1
      rcases h.out k hkn (by rw [hL]; simp) with h1 | h1
      · rw [hk] at h1; simp at h1; subst h1; simp
      · rw [hinc] at h1; simp at h1
    rw [ho, hinc]; simp [headW]
  | cons e r =>
    have h2 := hno e (by rw [hL, hs]; simp)
    simp only [headW]
    cases hi1 : s1.inc with
    | false => simp; split <;> omega
    | true => rw [hi hi1]; simp; omega
theorem psi_end (h : EvI n c f now top s fs) (h0 : psi f now s fs = 0) : s.L = [] ∧ s.inc = false ∧ ∀ k, k < n → fs[k]? = some (1 + f k) := by
  have ho : owed f 0 fs = 0 := by unfold psi at h0; omega
  have hinc : s.inc = false := by
    cases hi : s.inc with
    | false => rfl
    | true => unfold psi at h0; rw [hi] at h0; simp at h0
  have hL : s.L = [] := by
    cases hL : s.L with
    | nil => rfl
    | cons e r =>
      obtain ⟨k, x, _, _, hx, hxf, _⟩ := h.find (a := e.id) (by rw [hL]; simp)
      have := owed_pos (o := 0) hx (by simpa using hxf)
      omega
  refine ⟨hL, hinc, fun k hk => ?_⟩
  rcases h.out k hk (by rw [hL]; simp) with h1 | h1
  · exact h1
  · rw [hinc] at h1; simp at h1
theorem psi_start (h : EvI n c f 0 0 s (List.replicate n 0)) (hn : n ≤ 39) (hf : ∀ k, f k ≤ 1) : psi f 0 s (List.replicate n 0) ≤ 313 := by
  have h1 := owed_le hf 0 (List.replicate n 0)
  have h2 : headW 0 s.L = 0 := by
    cases hL : s.L with
    | nil => rfl
    | cons e r =>
      obtain ⟨k, _, _, h1⟩ := h.ent e (by rw [hL]; simp)
      show (e.due - 0).toNat = 0
      rcases h1 with h1 | h1 <;> omega
  simp at h1
  unfold psi
  rw [h2]
  split <;> omega
end Go.Proofs.Ytoidpcmcbmioiaa
