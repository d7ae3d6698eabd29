/-
  Arguments that are slices, known for good from the start (over any program).
-/
import Derived.Test.YtifghjeapfijkaaGreatDoorCls
import Derived.Test.YtifghjeapfijkaaGreatDoorOpen
namespace Go.Eng
open Go.RowKit

theorem argv_slP {P : Program} {w : World} {t e : TypeId} {v : Value} {α : Type} {enc : α → List Value} {sz : Nat} {Pd : α → Prop} (h : ArgV P w t v) (hu : P.underlying t = some (.slice e)) (hc : P.cellsOf e = sz) (hsz : 0 < sz)
    (hf : ∀ n x, x.length = sz → Fit P w n e x → ∃ y, x = enc y ∧ Pd y) : ∃ ad cap L, v = .slice ad L.length cap ∧ L.length ≤ cap ∧ cap ≤ maxLen ∧ KRow enc sz (Kn.of w) v L ∧ ∀ y ∈ L, Pd y := by
  obtain ⟨ad, n, cap, L, rfl, h1, h2, h3⟩ := argv_sl (enc := fun y : {y : α // Pd y} => enc y.1) (sz := sz) h hu hc hsz (fun n x hx hfx => by
    obtain ⟨y, e1, e2⟩ := hf n x hx hfx
    exact ⟨⟨y, e2⟩, e1⟩)
  have hl := h3.len
  subst hl
  refine ⟨ad, cap, L.map (·.1), by simp, by simpa using h1, h2, ⟨ad, cap, by simp, KSl.of ⟨by simp, ?_, ?_⟩, by simpa using h1⟩, ?_⟩
  · intro y hy
    obtain ⟨z, hz, rfl⟩ := List.mem_map.1 hy
    exact h3.size z hz
  · intro hne
    obtain ⟨b, off, e1, e2⟩ := h3.at_ (fun e0 => hne (by rw [e0]; rfl))
    refine ⟨b, off, e1, ?_⟩
    have : (L.map (·.1)).flatMap enc = L.flatMap (fun y => enc y.1) := by simp [List.flatMap_def, Function.comp_def]
    rw [this]; exact e2
  · intro y hy
    obtain ⟨z, _, rfl⟩ := List.mem_map.1 hy
    exact z.2
theorem argv_slK {P : Program} {w : World} {t e : TypeId} {v : Value} {α : Type} {enc : α → List Value} {sz : Nat} (h : ArgV P w t v) (hu : P.underlying t = some (.slice e)) (hc : P.cellsOf e = sz) (hsz : 0 < sz)
    (hf : ∀ n x, x.length = sz → Fit P w n e x → ∃ y, x = enc y) : ∃ ad cap L, v = .slice ad L.length cap ∧ L.length ≤ cap ∧ cap ≤ maxLen ∧ KRow enc sz (Kn.of w) v L := by
  obtain ⟨ad, cap, L, h1, h2, h3, h4, _⟩ := argv_slP (Pd := fun _ => True) h hu hc hsz (fun n x hx hfx => by obtain ⟨y, e⟩ := hf n x hx hfx; exact ⟨y, e, trivial⟩)
  exact ⟨ad, cap, L, h1, h2, h3, h4⟩
/-- a slice among the cells of something else -/
theorem fit_argv {P : Program} {w : World} {n : Nat} {t e : TypeId} {v : Value} (h : Fit P w n t [v]) (hu : P.underlying t = some (.slice e)) : ArgV P w t v := ⟨n, [v], h, by rw [hu]⟩
theorem fit_vec {P : Program} {w : World} {m : Nat} {t e : TypeId} (hu : P.underlying t = some (.array m e)) (he : P.underlying e = some (.int .u8)) (hc : P.cellsOf e = 1) (ht : P.cellsOf t = m) (n : Nat) (x : List Value) (_ : x.length = m) (h : Fit P w n t x) : ∃ y : Vec m, x = encV y := by
  obtain ⟨a, ha, hx⟩ := fit_bytes h hu he hc ht
  exact ⟨⟨a, ha⟩, hx⟩
theorem argv_vec {P : Program} {w : World} {m : Nat} {t e : TypeId} {v : Value} (h : ArgV P w t v) (hu : P.underlying t = some (.array m e)) (he : P.underlying e = some (.int .u8)) (hc : P.cellsOf e = 1) (ht : P.cellsOf t = m) : ∃ a : Vec m, v = idV a.1 := by
  obtain ⟨a, ha, hv⟩ := argv_bytes h hu he hc ht
  exact ⟨⟨a, ha⟩, hv⟩
end Go.Eng
