/-
  A slice that reads as a list of elements of sz cells each (over any program).
-/
import Derived.Test.YtifghjeapfijkaaGreatDoorOpen
namespace Go.Eng
open Go.RowKit

/-- the slice (ad, n) reads as the list L, each element laid out by enc -/
structure SlE {α : Type} (enc : α → List Value) (sz : Nat) (w : World) (ad : Option Addr) (n : Nat) (L : List α) : Prop where
  len : L.length = n
  size : ∀ y ∈ L, (enc y).length = sz
  at_ : L ≠ [] → ∃ b off, ad = some ⟨b, off, none⟩ ∧ At w b off (L.flatMap enc)

theorem flatMap_get {α : Type} {enc : α → List Value} {sz : Nat} : ∀ {L : List α} (_ : ∀ y ∈ L, (enc y).length = sz) {i : Nat} {y : α}, L[i]? = some y → ((L.flatMap enc).drop (i * sz)).take sz = enc y
  | [], _, i, y, h => by simp at h
  | x :: L, hs, 0, y, h => by
    simp at h; subst h
    have := hs x (by simp)
    simp only [List.flatMap_cons, Nat.zero_mul, List.drop_zero]
    rw [List.take_append_of_le_length (by omega), List.take_of_length_le (by omega)]
  | x :: L, hs, i + 1, y, h => by
    have hx := hs x (by simp)
    have ih := flatMap_get (fun z hz => hs z (by simp [hz])) (i := i) (y := y) (L := L) (by simpa using h)
    simp only [List.flatMap_cons]
    rw [List.drop_append, List.drop_eq_nil_of_le (by rw [hx, Nat.add_mul]; omega), List.nil_append, show (i + 1) * sz - (enc x).length = i * sz by rw [hx, Nat.add_mul]; omega]
    exact ih

section
variable {α : Type} {enc : α → List Value} {sz : Nat} {w w' : World} {ad : Option Addr} {n : Nat} {L : List α}

theorem SlE.get (h : SlE enc sz w ad n L) {i : Nat} {y : α} (hy : L[i]? = some y) : ∃ b off, ad = some ⟨b, off, none⟩ ∧ At w b (off + i * sz) (enc y) ∧ i < n := by
  have hne : L ≠ [] := by intro e; rw [e] at hy; simp at hy
  obtain ⟨b, off, hb, hat⟩ := h.at_ hne
  refine ⟨b, off, hb, ?_, ?_⟩
  · have := hat.sub (i * sz) sz
    rw [flatMap_get h.size hy] at this
    exact this
  · have := (List.getElem?_eq_some_iff.1 hy).1
    rw [← h.len]; exact this
theorem SlE.nth (h : SlE enc sz w ad n L) {i : Nat} (hi : i < n) : ∃ y, L[i]? = some y ∧ y ∈ L := by
  have : i < L.length := by rw [h.len]; exact hi
  exact ⟨L[i], List.getElem?_eq_getElem this, List.getElem_mem this⟩
theorem SlE.keep {S : List Nat} (h : SlE enc sz w ad n L) (m : Mod S w w') (hS : ∀ b, (Value.slice ad n n).ownBlock = some b → b ∉ S) : SlE enc sz w' ad n L :=
  ⟨h.len, h.size, fun hne => by
    obtain ⟨b, off, hb, hat⟩ := h.at_ hne
    exact ⟨b, off, hb, hat.keep m (hS b (by subst hb; rfl))⟩⟩
theorem SlE.keep0 (h : SlE enc sz w ad n L) (m : Mod [] w w') : SlE enc sz w' ad n L := h.keep m (fun _ _ => by simp)
theorem SlE.take (h : SlE enc sz w ad n L) {k : Nat} (hk : k ≤ n) : SlE enc sz w ad k (L.take k) :=
  ⟨by simp [h.len]; omega, fun y hy => h.size y (List.mem_of_mem_take hy), fun hne => by
    have hL : L ≠ [] := by intro e; rw [e] at hne; simp at hne
    obtain ⟨b, off, hb, hat⟩ := h.at_ hL
    refine ⟨b, off, hb, ?_⟩
    have e : L.flatMap enc = (L.take k).flatMap enc ++ (L.drop k).flatMap enc := by rw [← List.flatMap_append, List.take_append_drop]
    rw [e] at hat
    exact hat.app.1⟩
theorem SlE.nil : SlE enc sz w ad 0 ([] : List α) := ⟨rfl, (fun _ h => nomatch h), (fun h => absurd rfl h)⟩
/-- a row of the call's own -/
theorem SlE.ofOwn {base : Nat} {e : TypeId} {v : Value} {k : Nat} (h : w.ownsRow base e sz v k (L.flatMap enc)) (hs : ∀ y ∈ L, (enc y).length = sz) (hk : L.length = k) : ∃ ad cap, v = .slice ad k cap ∧ SlE enc sz w ad k L ∧ k ≤ cap := by
  rcases h.2 with ⟨rfl, h0⟩ | ⟨g, cap, cur, rfl, hb, hg, hkc, hcm, hsz, htake⟩
  · subst h0
    have : L = [] := List.length_eq_zero_iff.1 hk
    subst this
    exact ⟨none, 0, rfl, SlE.nil, Nat.le_refl _⟩
  · refine ⟨some ⟨g, 0, none⟩, cap, rfl, ⟨hk, hs, fun _ => ⟨g, 0, rfl, ?_⟩⟩, hkc⟩
    exact own_at h
end
/-- a slice argument -/
theorem argv_sl {P : Program} {w : World} {t e : TypeId} {v : Value} {α : Type} {enc : α → List Value} {sz : Nat} (h : ArgV P w t v) (hu : P.underlying t = some (.slice e)) (hc : P.cellsOf e = sz) (hsz : 0 < sz)
    (hf : ∀ n x, x.length = sz → Fit P w n e x → ∃ y, x = enc y) : ∃ ad n cap L, v = .slice ad n cap ∧ n ≤ cap ∧ cap ≤ maxLen ∧ SlE enc sz w ad n L := by
  obtain ⟨n', h0 | ⟨a, len, cap, xs, rfl, hlc, hcm, hl, hx, hsp, hat⟩⟩ := argv_slice h hu
  · subst h0
    exact ⟨none, 0, 0, [], rfl, Nat.le_refl _, Nat.zero_le _, SlE.nil⟩
  · obtain ⟨L, rfl⟩ := list_map_of enc xs (fun x hm => hf n' x (by rw [← hc]; exact (hx x hm).1) (hx x hm).2)
    refine ⟨some a, len, cap, L, rfl, hlc, hcm, ⟨by simpa using hl, fun y hy => ?_, fun hne => ?_⟩⟩
    · have := (hx (enc y) (List.mem_map_of_mem hy)).1
      rw [this, hc]
    · have hs := hsp (by simpa using hne) (by omega)
      obtain ⟨b, off, sp⟩ := a
      simp only at hs hat
      subst hs
      refine ⟨b, off, rfl, ?_⟩
      simpa [List.flatMap_def] using hat
end Go.Eng
