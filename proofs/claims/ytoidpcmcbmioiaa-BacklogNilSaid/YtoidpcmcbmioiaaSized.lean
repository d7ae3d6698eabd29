/-
  What the row says of the sizes of an argument: a slice among its cells takes no more bytes than an address space has (over any program).
-/
import Derived.Test.YtoidpcmcbmioiaaOpen
import Derived.SizedLaws
namespace Go.Eng
open Go.RowKit

def FitZ (P : Program) : Nat → TypeId → List Value → Prop
  | 0, _, _ => False
  | n + 1, t, cs => match P.underlying t with
    | some (.slice e) => ∀ a len cap, cs = [.slice (some a) len cap] → len * P.bytesOf e ≤ reachBytes
    | some (.struct fs) => ∀ (i : Nat) (f : Field), fs[i]? = some f → FitZ P n f.type ((cs.drop f.offset).take (P.cellsOf f.type))
    | _ => True
section
variable {H : Type} {enc : TypeId × Value → H} {P : Program} {w : World} {base : Nat} {spare : Nat → Bool} {held : Bool}
theorem fitZ_of_trod : ∀ (n : Nat) (t : TypeId) (cs : List Value) (x : DataW H × List MemPlace), DataW.trod enc P w base spare held n t cs = some x → (∀ k ∈ x.1.weights P t, k ≤ reachBytes) → FitZ P n t cs := by
  intro n
  induction n with
  | zero => intro t cs x h; simp [DataW.trod] at h
  | succ n ih =>
    intro t cs x h hk
    unfold FitZ
    cases hu : P.underlying t with
    | none => trivial
    | some d =>
      cases d with
      | slice e =>
        intro a len cap he
        rcases Deep.open_slice hu h with ⟨rfl, _⟩ | ⟨a', len', cap', m, n', D, Pl, rfl, hb, hlc, hcm, hm, rfl, hel⟩
        · simp at he
        · simp only [List.cons.injEq, Value.slice.injEq, and_true] at he
          obtain ⟨_, rfl, _⟩ := he
          have := hk ((len' + (m - len')) * P.bytesOf e) (by simp [DataW.weights, hu])
          exact Nat.le_trans (Nat.mul_le_mul_right _ (by omega)) this
      | struct fs =>
        obtain ⟨ys, m', hm', rfl, hlen, hyl, hy⟩ := DataW.trod_struct hu h
        have : m' = n := by omega
        subst this
        intro i f hf
        have h1 := hy i f hf
        have hi : i < ys.length := by rw [hyl]; exact (Array.getElem?_eq_some_iff.1 hf).1
        rw [List.getElem?_eq_getElem hi] at h1
        refine ih _ _ _ h1 (fun k hkm => hk k ?_)
        simp only [DataW.weights, hu]
        refine DataW.weights_mem_each (j := i) (t := f.type) (d := ys[i].1) ?_ ?_ k hkm
        · rw [List.getElem?_map, Array.getElem?_toList, hf]; rfl
        · rw [List.getElem?_map, List.getElem?_eq_getElem hi]; rfl
      | _ => trivial
end
def ArgZ (P : Program) (t : TypeId) (v : Value) : Prop := ∃ n, FitZ P n t v.cells.toList
theorem argz_of {H : Type} {enc : TypeId × Value → H} {P : Program} {w : World} {base : Nat} {spare : Nat → Bool} {held : Bool} {t : TypeId} {v : Value} {d : DataW H} {p : List MemPlace} {ts : List TypeId} {ds : List (DataW H)}
    (h : DataW.Trod enc P w base spare held t v d p) (hz : (DataW.weightsEach P ts ds).all (· ≤ reachBytes) = true) {j : Nat} (ht : ts[j]? = some t) (hd : ds[j]? = some d) : ArgZ P t v := by
  obtain ⟨n, hn⟩ := h
  exact ⟨n, fitZ_of_trod n t _ _ hn (fun k hk => by simpa using List.all_eq_true.1 hz k (DataW.weights_mem_each ht hd k hk))⟩
theorem argv_struct {P : Program} {w : World} {t : TypeId} {v : Value} {fs : Array Field} (h : ArgV P w t v) (hu : P.underlying t = some (.struct fs)) : ∃ n cs, Fit P w n t cs ∧ v = .agg cs.toArray := by
  obtain ⟨n, cs, hf, he⟩ := h
  rw [hu] at he
  exact ⟨n, cs, hf, he⟩
theorem fitZ_struct {P : Program} {n : Nat} {t : TypeId} {cs : List Value} {fs : Array Field} (h : FitZ P n t cs) (hu : P.underlying t = some (.struct fs)) : ∃ n', ∀ (i : Nat) (f : Field), fs[i]? = some f → FitZ P n' f.type ((cs.drop f.offset).take (P.cellsOf f.type)) := by
  cases n with
  | zero => exact h.elim
  | succ n => unfold FitZ at h; rw [hu] at h; exact ⟨n, h⟩
theorem fitZ_slice {P : Program} {n : Nat} {t e : TypeId} {a : Addr} {len cap : Nat} (h : FitZ P n t [.slice (some a) len cap]) (hu : P.underlying t = some (.slice e)) : len * P.bytesOf e ≤ reachBytes := by
  cases n with
  | zero => exact h.elim
  | succ n => unfold FitZ at h; rw [hu] at h; exact h _ _ _ rfl
end Go.Eng
