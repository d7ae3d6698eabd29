/-
  What the row's reading of an argument gives: the cells of a value of a type, and of what a slice in it leads to (over any program).
-/
import Derived.Test.YtifghjeapfijkaaGreatDoorEngCall
import Derived.ProofKit
import Derived.OpenShut
import Derived.Deep.Slices
namespace Go.Eng
open Go.RowKit

/-- the cells cs fit type t, and so does what the slices in them lead to -/
def Fit (P : Program) (w : World) : Nat → TypeId → List Value → Prop
  | 0, _, _ => False
  | n + 1, t, cs => match P.underlying t with
    | some .bool => ∃ b, cs = [.bool b]
    | some (.int k) => ∃ i, cs = [.int k i] ∧ (Lit.int k i).wf = true
    | some .string => ∃ l : List UInt8, cs = [str l] ∧ l.length ≤ maxLen
    | some (.slice e) => cs = [.slice none 0 0] ∨ ∃ (a : Addr) (len cap : Nat) (xs : List (List Value)), cs = [.slice (some a) len cap] ∧ len ≤ cap ∧ cap ≤ maxLen ∧ xs.length = len ∧
        (∀ x ∈ xs, x.length = P.cellsOf e ∧ Fit P w n e x) ∧ (xs ≠ [] → 0 < P.cellsOf e → a.spot = none) ∧ At w a.block a.off xs.flatten
    | some (.array m e) => cs.length = P.cellsOf t ∧ ∀ i, i < m → Fit P w n e ((cs.drop (i * P.cellsOf e)).take (P.cellsOf e))
    | some (.struct fs) => cs.length = P.cellsOf t ∧ ∀ (i : Nat) (f : Field), fs[i]? = some f → Fit P w n f.type ((cs.drop f.offset).take (P.cellsOf f.type))
    | _ => True

theorem flatten_cells {w : World} {b off sz : Nat} : ∀ (xs : List (List Value)) (k : Nat), (∀ x ∈ xs, x.length = sz) → (∀ i x, xs[i]? = some x → At w b (off + (k + i) * sz) x) → At w b (off + k * sz) xs.flatten
  | [], _, _, _ => fun i v h => by simp at h
  | x :: xs, k, hl, h => by
    have h0 := h 0 x (by simp)
    have ih := flatten_cells xs (k + 1) (fun y hy => hl y (by simp [hy])) (fun i y hi => by
      have := h (i + 1) y (by simpa using hi)
      rw [show k + 1 + i = k + (i + 1) by omega]; exact this)
    intro i v hv
    rw [List.flatten_cons] at hv
    have hx := hl x (by simp)
    by_cases hi : i < x.length
    · rw [List.getElem?_append_left hi] at hv
      have := h0 i v hv
      simpa using this
    · rw [List.getElem?_append_right (by omega)] at hv
      have := ih (i - x.length) v hv
      have e : off + (k + 1) * sz + (i - x.length) = off + k * sz + i := by rw [Nat.add_mul]; omega
      rw [e] at this; exact this

theorem cells_at {w : World} {base n : Nat} {a : Addr} {cs : List Value} (h : w.cells? base a n = some cs) : cs.length = n ∧ (∀ i v, cs[i]? = some v → w.cell? (a.add i) = some v) := by
  unfold World.cells? at h
  split at h
  · have key : ∀ (l : List Nat) (out : List Value), l.mapM (fun i => w.cell? (a.add i)) = some out → out.length = l.length ∧ ∀ (j : Nat) v, out[j]? = some v → ∃ i : Nat, l[j]? = some i ∧ w.cell? (a.add i) = some v := by
      intro l
      induction l with
      | nil => intro out h; simp at h; subst h; simp
      | cons x l ih =>
        intro out h
        rw [List.mapM_cons] at h
        cases hx : w.cell? (a.add x) with
        | none => rw [hx] at h; cases h
        | some v0 =>
          rw [hx] at h
          cases hr : l.mapM (fun i => w.cell? (a.add i)) with
          | none => rw [hr] at h; cases h
          | some rest =>
            rw [hr] at h
            simp at h
            subst h
            obtain ⟨h1, h2⟩ := ih rest hr
            refine ⟨by simp [h1], ?_⟩
            intro j v hj
            cases j with
            | zero => simp at hj; subst hj; exact ⟨x, by simp, hx⟩
            | succ j => obtain ⟨i, h3, h4⟩ := h2 j v (by simpa using hj); exact ⟨i, by simpa using h3, h4⟩
    obtain ⟨h1, h2⟩ := key _ _ h
    refine ⟨by simpa using h1, fun i v hv => ?_⟩
    obtain ⟨j, h3, h4⟩ := h2 i v hv
    have hlt : i < n := by
      have := (List.getElem?_eq_some_iff.1 hv).1
      simp at h1; omega
    rw [List.getElem?_range hlt] at h3
    simp at h3; subst h3; exact h4
  · cases h

section
variable {H : Type} {enc : TypeId × Value → H} {P : Program} {w : World} {base : Nat} {spare : Nat → Bool} {held : Bool}

theorem add_nz {a : Addr} {n : Nat} : (a.add n).block = a.block ∧ (a.add n).off = a.off + n ∧ (a.spot = none → (a.add n).spot = none) := by
  unfold Addr.add
  split
  · rename_i h; subst h; exact ⟨rfl, rfl, fun h => h⟩
  · exact ⟨rfl, rfl, fun _ => rfl⟩
theorem cell_spot {a : Addr} {v : Value} (h : w.cell? a = some v) : a.spot = none := by
  unfold World.cell? at h
  split at h
  · split at h
    · cases h
    · rename_i h2; cases hs : a.spot with
      | none => rfl
      | some x => simp [hs] at h2
  · cases h

theorem list_of {α : Type} : ∀ (len : Nat) (p : Nat → α → Prop), (∀ i, i < len → ∃ x, p i x) → ∃ xs : List α, xs.length = len ∧ ∀ i x, xs[i]? = some x → p i x
  | 0, _, _ => ⟨[], rfl, fun i x h => by simp at h⟩
  | len + 1, p, h => by
    obtain ⟨xs, h1, h2⟩ := list_of len p (fun i hi => h i (by omega))
    obtain ⟨x, hx⟩ := h len (by omega)
    refine ⟨xs ++ [x], by simp [h1], fun i y hy => ?_⟩
    by_cases hi : i < xs.length
    · rw [List.getElem?_append_left hi] at hy; exact h2 i y hy
    · rw [List.getElem?_append_right (by omega)] at hy
      have : i = len := by
        have := (List.getElem?_eq_some_iff.1 hy).1
        simp at this; omega
      subst this
      simp [h1] at hy
      subst hy; exact hx

theorem hel' {n : Nat} {t e : TypeId} {a : Addr} {len cap : Nat} {x : DataW H × List MemPlace} (h : DataW.trod enc P w base spare held (n + 1) t [.slice (some a) len cap] = some x) (hu : P.underlying t = some (.slice e)) (i : Nat) (hi : i < len) :
    ∃ cs', w.cells? base (a.add (i * P.cellsOf e)) (P.cellsOf e) = some cs' ∧ ∃ y, DataW.trod enc P w base spare held n e cs' = some y := by
  unfold DataW.trod at h
  rw [hu] at h
  simp only at h
  split at h
  · obtain ⟨elems, h1, _⟩ := Option.bind_eq_some_iff.1 h
    have key : ∀ (l : List Nat) (out : List (DataW H × List MemPlace)) (f : Nat → Option (DataW H × List MemPlace)), l.mapM f = some out → ∀ j ∈ l, ∃ y, f j = some y := by
      intro l
      induction l with
      | nil => intro out f _ j hj; cases hj
      | cons z l ih =>
        intro out f h j hj
        rw [List.mapM_cons] at h
        cases hz : f z with
        | none => rw [hz] at h; cases h
        | some y0 =>
          rw [hz] at h
          cases hr : l.mapM f with
          | none => rw [hr] at h; cases h
          | some rest =>
            rcases List.mem_cons.1 hj with rfl | hj
            · exact ⟨y0, hz⟩
            · exact ih rest f hr j hj
    obtain ⟨y, hy⟩ := key _ _ _ h1 i (List.mem_range.2 hi)
    obtain ⟨cs', h2, h3⟩ := Option.bind_eq_some_iff.1 hy
    exact ⟨cs', h2, y, h3⟩
  · cases h

theorem fit_of_trod : ∀ (n : Nat) (t : TypeId) (cs : List Value) (x : DataW H × List MemPlace), DataW.trod enc P w base spare held n t cs = some x → Fit P w n t cs := by
  intro n
  induction n with
  | zero => intro t cs x h; simp [DataW.trod] at h
  | succ n ih =>
    intro t cs x h
    unfold Fit
    cases hu : P.underlying t with
    | none => trivial
    | some d =>
      cases d with
      | bool => obtain ⟨b, rfl, _⟩ := DataW.trod_bool hu h; exact ⟨b, rfl⟩
      | int k => obtain ⟨i, rfl, _, hw⟩ := DataW.trod_int hu h; exact ⟨i, rfl, hw⟩
      | string =>
        obtain ⟨s, rfl, _, hs⟩ := DataW.trod_string hu h
        refine ⟨s.data.toList, ?_, ?_⟩
        · obtain ⟨⟨l⟩⟩ := s; rfl
        · obtain ⟨⟨l⟩⟩ := s; exact hs
      | slice e =>
        rcases Deep.open_slice hu h with ⟨rfl, _⟩ | ⟨a, len, cap, m, n', D, Pl, rfl, hb, hlc, hcm, hm, hx, hel⟩
        · exact .inl rfl
        · right
          have hn' : ∃ xs : List (List Value), xs.length = len ∧ ∀ i x, xs[i]? = some x → (x.length = P.cellsOf e ∧ Fit P w n e x) ∧ (∀ j v, x[j]? = some v → w.cell? ((a.add (i * P.cellsOf e)).add j) = some v) := by
            refine list_of len (fun i x => (x.length = P.cellsOf e ∧ Fit P w n e x) ∧ (∀ j v, x[j]? = some v → w.cell? ((a.add (i * P.cellsOf e)).add j) = some v)) (fun i hi => ?_)
            obtain ⟨cs', h1, y, h2⟩ := hel' h hu i (by omega)
            obtain ⟨h3, h4⟩ := cells_at h1
            exact ⟨cs', ⟨h3, ih _ _ _ h2⟩, h4⟩
          obtain ⟨xs, hxl, hxs⟩ := hn'
          refine ⟨a, len, cap, xs, rfl, hlc, hcm, hxl, ?_, ?_, ?_⟩
          · intro x hxm
            obtain ⟨i, hi⟩ := List.mem_iff_getElem?.1 hxm
            exact (hxs i x hi).1
          · intro hne hpos
            cases xs with
            | nil => exact absurd rfl hne
            | cons x0 xs =>
              obtain ⟨⟨h1, _⟩, h2⟩ := hxs 0 x0 (by simp)
              have hlt : 0 < x0.length := by omega
              have := h2 0 x0[0] (by simp [hlt])
              have := cell_spot this
              simpa [Addr.add] using this
          · by_cases hpos : 0 < P.cellsOf e
            · have key : ∀ i x, xs[i]? = some x → At w a.block (a.off + (0 + i) * P.cellsOf e) x := by
                intro i x hi j v hv
                have h2 := (hxs i x hi).2 j v hv
                have hsp := cell_spot h2
                have e1 : (a.add (i * P.cellsOf e)).add j = ⟨a.block, a.off + (0 + i) * P.cellsOf e + j, none⟩ := by
                  have b1 := @add_nz a (i * P.cellsOf e)
                  have b2 := @add_nz (a.add (i * P.cellsOf e)) j
                  cases hh : (a.add (i * P.cellsOf e)).add j with
                  | mk bb oo ss =>
                    rw [hh] at b2 hsp
                    simp only at b2 hsp
                    rw [b1.1, b1.2.1] at b2
                    obtain ⟨c1, c2, _⟩ := b2
                    subst c1 c2 hsp
                    simp
                rw [e1] at h2; exact h2
              have := flatten_cells (w := w) (b := a.block) (off := a.off) (sz := P.cellsOf e) xs 0 (fun x hxm => by
                obtain ⟨i, hi⟩ := List.mem_iff_getElem?.1 hxm
                exact (hxs i x hi).1.1) key
              simpa using this
            · intro i v hv
              have : xs.flatten = [] := by
                rw [List.flatten_eq_nil_iff]
                intro l hl
                obtain ⟨i, hi⟩ := List.mem_iff_getElem?.1 hl
                have := (hxs i l hi).1.1
                exact List.length_eq_zero_iff.1 (by omega)
              rw [this] at hv; simp at hv
      | array m e =>
        obtain ⟨ys, m', hm', _, hlen, hyl, hy⟩ := DataW.trod_array hu h
        have : m' = n := by omega
        subst this
        refine ⟨hlen, fun i hi => ?_⟩
        have h1 := hy i hi
        rw [List.getElem?_eq_getElem (by omega)] at h1
        exact ih _ _ _ h1
      | struct fs =>
        obtain ⟨ys, m', hm', _, hlen, hyl, hy⟩ := DataW.trod_struct hu h
        have : m' = n := by omega
        subst this
        refine ⟨hlen, fun i f hf => ?_⟩
        have h1 := hy i f hf
        have hi : i < ys.length := by rw [hyl]; exact (Array.getElem?_eq_some_iff.1 hf).1
        rw [List.getElem?_eq_getElem hi] at h1
        exact ih _ _ _ h1
      | _ => trivial
end

section
variable {P : Program} {w : World} {n : Nat} {t e : TypeId} {cs : List Value}
theorem wf_u8 {i : Int} (h : (Lit.int .u8 i).wf = true) : ∃ b : UInt8, Value.int .u8 i = ub b := by
  have hb : 0 ≤ i ∧ i ≤ 255 := bounds_u8 h
  obtain ⟨m, rfl⟩ := Int.eq_ofNat_of_zero_le hb.1
  refine ⟨UInt8.ofNat m, ?_⟩
  have : (UInt8.ofNat m).toNat = m := UInt8.toNat_ofNat_of_lt' (by show m < 256; omega)
  simp [ub, this]
theorem fit_u8 (h : Fit P w n t cs) (hu : P.underlying t = some (.int .u8)) : ∃ b : UInt8, cs = [ub b] := by
  cases n with
  | zero => exact h.elim
  | succ n =>
    unfold Fit at h; rw [hu] at h
    obtain ⟨i, rfl, hw⟩ := h
    obtain ⟨b, hb⟩ := wf_u8 hw
    exact ⟨b, by rw [hb]⟩
theorem fit_int {k : IntKind} (h : Fit P w n t cs) (hu : P.underlying t = some (.int k)) : ∃ i, cs = [.int k i] ∧ (Lit.int k i).wf = true := by
  cases n with
  | zero => exact h.elim
  | succ n => unfold Fit at h; rw [hu] at h; exact h
theorem fit_bool (h : Fit P w n t cs) (hu : P.underlying t = some .bool) : ∃ b, cs = [.bool b] := by
  cases n with
  | zero => exact h.elim
  | succ n => unfold Fit at h; rw [hu] at h; exact h
theorem fit_str (h : Fit P w n t cs) (hu : P.underlying t = some .string) : ∃ l : List UInt8, cs = [str l] ∧ l.length ≤ maxLen := by
  cases n with
  | zero => exact h.elim
  | succ n => unfold Fit at h; rw [hu] at h; exact h
theorem fit_bytes {m : Nat} (h : Fit P w n t cs) (hu : P.underlying t = some (.array m e)) (he : P.underlying e = some (.int .u8)) (hc : P.cellsOf e = 1) (ht : P.cellsOf t = m) : ∃ a : List UInt8, a.length = m ∧ cs = a.map ub := by
  cases n with
  | zero => exact h.elim
  | succ n =>
    unfold Fit at h; rw [hu] at h
    obtain ⟨hl, hi⟩ := h
    rw [ht] at hl
    have key : ∀ (cs : List Value), (∀ v ∈ cs, ∃ b : UInt8, v = ub b) → ∃ a : List UInt8, cs = a.map ub := by
      intro cs
      induction cs with
      | nil => intro _; exact ⟨[], rfl⟩
      | cons v cs ih =>
        intro h
        obtain ⟨b, rfl⟩ := h v (by simp)
        obtain ⟨a, rfl⟩ := ih (fun u hu => h u (by simp [hu]))
        exact ⟨b :: a, rfl⟩
    obtain ⟨a, rfl⟩ := key cs (fun v hv => by
      obtain ⟨i, hlt, rfl⟩ := List.mem_iff_getElem.1 hv
      have := hi i (by omega)
      rw [hc, Nat.mul_one] at this
      obtain ⟨b, hb⟩ := fit_u8 this he
      rw [List.drop_eq_getElem_cons hlt] at hb
      exact ⟨b, List.head_eq_of_cons_eq hb⟩)
    exact ⟨a, by simpa using hl, rfl⟩
theorem fit_slice (h : Fit P w n t cs) (hu : P.underlying t = some (.slice e)) : ∃ n', cs = [.slice none 0 0] ∨ ∃ (a : Addr) (len cap : Nat) (xs : List (List Value)), cs = [.slice (some a) len cap] ∧ len ≤ cap ∧ cap ≤ maxLen ∧ xs.length = len ∧
        (∀ x ∈ xs, x.length = P.cellsOf e ∧ Fit P w n' e x) ∧ (xs ≠ [] → 0 < P.cellsOf e → a.spot = none) ∧ At w a.block a.off xs.flatten := by
  cases n with
  | zero => exact h.elim
  | succ n => unfold Fit at h; rw [hu] at h; exact ⟨n, h⟩
theorem fit_struct {fs : Array Field} (h : Fit P w n t cs) (hu : P.underlying t = some (.struct fs)) : ∃ n', cs.length = P.cellsOf t ∧ ∀ (i : Nat) (f : Field), fs[i]? = some f → Fit P w n' f.type ((cs.drop f.offset).take (P.cellsOf f.type)) := by
  cases n with
  | zero => exact h.elim
  | succ n => unfold Fit at h; rw [hu] at h; exact ⟨n, h⟩
/-- every element of a list is of a form -/
theorem list_map_of {α β : Type} (f : β → α) : ∀ (xs : List α), (∀ x ∈ xs, ∃ y, x = f y) → ∃ ys : List β, xs = ys.map f
  | [], _ => ⟨[], rfl⟩
  | x :: xs, h => by
    obtain ⟨y, rfl⟩ := h x (by simp)
    obtain ⟨ys, rfl⟩ := list_map_of f xs (fun z hz => h z (by simp [hz]))
    exact ⟨y :: ys, rfl⟩
end

/-- a value that came in as an argument of type t -/
def ArgV (P : Program) (w : World) (t : TypeId) (v : Value) : Prop := ∃ n cs, Fit P w n t cs ∧ (match P.underlying t with | some (.array ..) | some (.struct _) => v = .agg cs.toArray | _ => cs = [v])

theorem argv_of {H : Type} {enc : TypeId × Value → H} {P : Program} {w : World} {base b0 : Nat} {spare : Nat → Bool} {held : Bool} {r : Reach} {t : TypeId} {v : Value} {d : DataW H} {p : List MemPlace}
    (hv : Value.okWide P w r b0 t v) (h : DataW.Trod enc P w base spare held t v d p) : ArgV P w t v := by
  obtain ⟨n, hn⟩ := h
  refine ⟨n, v.cells.toList, fit_of_trod n t _ _ hn, ?_⟩
  unfold Value.okWide at hv
  have single : ∀ (u : Value), (∀ cs, u ≠ .agg cs) → u.cells.toList = [u] := fun u hu => by
    cases u <;> first | rfl | (exact absurd rfl (hu _))
  split
  · rename_i hu
    rw [hu] at hv
    obtain ⟨cs, rfl, _⟩ := hv
    simp [Value.cells]
  · rename_i hu
    rw [hu] at hv
    obtain ⟨cs, rfl, _⟩ := hv
    simp [Value.cells]
  · rename_i h1 h2
    refine single v ?_
    rintro cs rfl
    cases n with
    | zero => simp [DataW.trod] at hn
    | succ n =>
      have : Cell.okWide P w r b0 t (.agg cs) := by
        revert hv
        cases hu : P.underlying t with
        | none => exact fun h => h
        | some dd => cases dd <;> first | exact (fun h => h) | (exact absurd hu (h1 _ _)) | (exact absurd hu (h2 _))
      unfold Cell.okWide at this
      revert this
      cases hu : P.underlying t with
      | none => simp [Cell.ok]
      | some dd => cases dd <;> simp [Cell.ok]

section
variable {P : Program} {w : World} {t e : TypeId} {v : Value}
theorem argv_bytes {m : Nat} (h : ArgV P w t v) (hu : P.underlying t = some (.array m e)) (he : P.underlying e = some (.int .u8)) (hc : P.cellsOf e = 1) (ht : P.cellsOf t = m) : ∃ a : List UInt8, a.length = m ∧ v = idV a := by
  obtain ⟨n, cs, hf, hm⟩ := h
  rw [hu] at hm
  obtain ⟨a, ha, rfl⟩ := fit_bytes hf hu he hc ht
  exact ⟨a, ha, hm⟩
theorem argv_str (h : ArgV P w t v) (hu : P.underlying t = some .string) : ∃ l : List UInt8, v = str l ∧ l.length ≤ maxLen := by
  obtain ⟨n, cs, hf, hm⟩ := h
  rw [hu] at hm
  obtain ⟨l, rfl, hl⟩ := fit_str hf hu
  simp only [List.cons.injEq, and_true] at hm
  exact ⟨l, hm.symm, hl⟩
theorem argv_int {k : IntKind} (h : ArgV P w t v) (hu : P.underlying t = some (.int k)) : ∃ i, v = .int k i ∧ (Lit.int k i).wf = true := by
  obtain ⟨n, cs, hf, hm⟩ := h
  rw [hu] at hm
  obtain ⟨i, rfl, hw⟩ := fit_int hf hu
  simp only [List.cons.injEq, and_true] at hm
  exact ⟨i, hm.symm, hw⟩
theorem argv_u8 (h : ArgV P w t v) (hu : P.underlying t = some (.int .u8)) : ∃ b : UInt8, v = ub b := by
  obtain ⟨i, rfl, hw⟩ := argv_int h hu
  exact wf_u8 hw
theorem argv_bool (h : ArgV P w t v) (hu : P.underlying t = some .bool) : ∃ b, v = .bool b := by
  obtain ⟨n, cs, hf, hm⟩ := h
  rw [hu] at hm
  obtain ⟨i, rfl⟩ := fit_bool hf hu
  simp only [List.cons.injEq, and_true] at hm
  exact ⟨i, hm.symm⟩
theorem argv_slice (h : ArgV P w t v) (hu : P.underlying t = some (.slice e)) : ∃ n', v = .slice none 0 0 ∨ ∃ (a : Addr) (len cap : Nat) (xs : List (List Value)), v = .slice (some a) len cap ∧ len ≤ cap ∧ cap ≤ maxLen ∧ xs.length = len ∧
        (∀ x ∈ xs, x.length = P.cellsOf e ∧ Fit P w n' e x) ∧ (xs ≠ [] → 0 < P.cellsOf e → a.spot = none) ∧ At w a.block a.off xs.flatten := by
  obtain ⟨n, cs, hf, hm⟩ := h
  rw [hu] at hm
  obtain ⟨n', h2⟩ := fit_slice hf hu
  simp only at hm
  subst hm
  refine ⟨n', ?_⟩
  simpa using h2
end
end Go.Eng
