/-
  Separate pieces of the heap: what is known for good (K), and a list of pieces that are owned, all apart from each other (over any program).
-/
import Derived.Test.YtifghjeapfijkaaGreatDoorEngOwn
namespace Go.Eng
open Go.RowKit

/-- a piece of the heap: blocks with what they hold -/
abbrev Hl := List (Nat × Obj)
def row (b : Nat) (t : TypeId) (l : List Value) : Hl := [(b, .cells l.toArray t (0, 0))]

/-- what is known for good: the world at the start (what is not heap), blocks that nobody writes any more -/
structure Kn where
  w : World
  ro : Nat → Option Obj
def Kn.of (w : World) : Kn := ⟨w, fun b => w.heap[b]?⟩
def Kn.cell (K : Kn) (b off : Nat) : Option Value := match K.ro b with | some (.cells c _ _) => c[off]? | _ => none
def KAt (K : Kn) (b off : Nat) (cs : List Value) : Prop := ∀ i v, cs[i]? = some v → K.cell b (off + i) = some v

structure Sat (K : Kn) (w : World) (Hs : List Hl) : Prop where
  os : w.os = K.w.os
  tape : w.tape = K.w.tape
  output : w.output = K.w.output
  size : K.w.heap.size ≤ w.heap.size
  ro : ∀ b o, K.ro b = some o → w.heap[b]? = some o
  nd : (Hs.flatten.map (·.1)).Nodup
  obj : ∀ p ∈ Hs.flatten, w.heap[p.1]? = some p.2
  ap : ∀ p ∈ Hs.flatten, K.ro p.1 = none

theorem Sat.start (w : World) : Sat (Kn.of w) w [] := ⟨rfl, rfl, rfl, Nat.le_refl _, fun _ _ h => h, by simp, by simp, by simp⟩
theorem Sat.mod {W w : World} {Hs : List Hl} (h : Sat (Kn.of W) w Hs) : Mod [] W w :=
  ⟨h.os, h.tape, h.output, h.size, fun k hk _ => by
    have h1 : W.heap[k]? = some W.heap[k] := Array.getElem?_eq_getElem hk
    have := h.ro k _ h1
    rw [this]; exact h1.symm⟩
section
variable {K K' : Kn} {w w' : World} {Hs R : List Hl} {A B C D E F G : Hl}

theorem Sat.perm {Hs' : List Hl} (h : Sat K w Hs) (p : Hs'.flatten.Perm Hs.flatten) : Sat K w Hs' :=
  ⟨h.os, h.tape, h.output, h.size, h.ro, (p.map _).nodup_iff.2 h.nd, fun x hx => h.obj x (p.mem_iff.1 hx), fun x hx => h.ap x (p.mem_iff.1 hx)⟩
theorem Sat.sub {Hs' : List Hl} (h : Sat K w Hs) (p : Hs'.flatten.Sublist Hs.flatten) : Sat K w Hs' :=
  ⟨h.os, h.tape, h.output, h.size, h.ro, List.Nodup.sublist (p.map _) h.nd, fun x hx => h.obj x (p.subset hx), fun x hx => h.ap x (p.subset hx)⟩
theorem Sat.drop (h : Sat K w (A :: R)) : Sat K w R := h.sub (by simp)
theorem Sat.drop1 (h : Sat K w (A :: B :: R)) : Sat K w (A :: R) := h.sub (by simp)
theorem Sat.drop2 (h : Sat K w (A :: B :: C :: R)) : Sat K w (A :: B :: R) := h.sub (by simp)
theorem Sat.drop3 (h : Sat K w (A :: B :: C :: D :: R)) : Sat K w (A :: B :: C :: R) := h.sub (by simp)
theorem Sat.drop4 (h : Sat K w (A :: B :: C :: D :: E :: R)) : Sat K w (A :: B :: C :: D :: R) := h.sub (by simp)
theorem flat_swap (A B : Hl) (R : List Hl) : (B :: A :: R).flatten.Perm (A :: B :: R).flatten := by
  simp only [List.flatten_cons, ← List.append_assoc]
  exact List.Perm.append_right _ List.perm_append_comm
theorem flat_cons {Hs Hs' : List Hl} (A : Hl) (p : Hs.flatten.Perm Hs'.flatten) : (A :: Hs).flatten.Perm (A :: Hs').flatten := by
  simp only [List.flatten_cons]; exact List.Perm.append_left _ p
/-- the piece of this number comes to the front -/
theorem Sat.p1 (h : Sat K w (A :: B :: R)) : Sat K w (B :: A :: R) := h.perm (flat_swap A B R)
theorem Sat.p2 (h : Sat K w (A :: B :: C :: R)) : Sat K w (C :: A :: B :: R) := h.perm ((flat_swap A C _).trans (flat_cons A (flat_swap B C R)))
theorem Sat.p3 (h : Sat K w (A :: B :: C :: D :: R)) : Sat K w (D :: A :: B :: C :: R) :=
  h.perm ((flat_swap A D _).trans (flat_cons A ((flat_swap B D _).trans (flat_cons B (flat_swap C D R)))))
theorem Sat.p4 (h : Sat K w (A :: B :: C :: D :: E :: R)) : Sat K w (E :: A :: B :: C :: D :: R) :=
  h.perm ((flat_swap A E _).trans (flat_cons A ((flat_swap B E _).trans (flat_cons B ((flat_swap C E _).trans (flat_cons C (flat_swap D E R)))))))
theorem Sat.p5 (h : Sat K w (A :: B :: C :: D :: E :: F :: R)) : Sat K w (F :: A :: B :: C :: D :: E :: R) :=
  h.perm ((flat_swap A F _).trans (flat_cons A ((flat_swap B F _).trans (flat_cons B ((flat_swap C F _).trans (flat_cons C ((flat_swap D F _).trans (flat_cons D (flat_swap E F R)))))))))
/-- the first piece goes to this place -/
theorem Sat.q1 (h : Sat K w (A :: B :: R)) : Sat K w (B :: A :: R) := h.p1
theorem Sat.q2 (h : Sat K w (A :: B :: C :: R)) : Sat K w (B :: C :: A :: R) := h.p2.p2
theorem Sat.q3 (h : Sat K w (A :: B :: C :: D :: R)) : Sat K w (B :: C :: D :: A :: R) := h.p3.p3.p3
theorem Sat.q4 (h : Sat K w (A :: B :: C :: D :: E :: R)) : Sat K w (B :: C :: D :: E :: A :: R) := h.p4.p4.p4.p4
theorem Sat.join (h : Sat K w (A :: B :: R)) : Sat K w ((A ++ B) :: R) := h.perm (by simp)
theorem Sat.cut (h : Sat K w ((A ++ B) :: R)) : Sat K w (A :: B :: R) := h.perm (by simp)
theorem Sat.nil (h : Sat K w R) : Sat K w ([] :: R) := h.perm (by simp)

theorem Sat.blk {b : Nat} {t : TypeId} {l : List Value} (h : Sat K w (row b t l :: R)) : Blk w b t l := h.obj (b, _) (by simp [row])
theorem Sat.o0 {b : Nat} {o : Obj} {A : Hl} (h : Sat K w (((b, o) :: A) :: R)) : w.heap[b]? = some o := h.obj (b, o) (by simp)
theorem KAt.at {b off : Nat} {cs : List Value} (k : KAt K b off cs) (h : Sat K w Hs) : At w b off cs := fun i v hv => by
  have := k i v hv
  unfold Kn.cell at this
  split at this
  · rename_i c t fr hro
    rw [cell_of_row w b _ c t fr (h.ro b _ hro)]; exact this
  · cases this
theorem KAt.of {W : World} {b off : Nat} {cs : List Value} (h : At W b off cs) : KAt (Kn.of W) b off cs := fun i v hv => by
  have := h i v hv
  unfold World.cell? at this
  unfold Kn.cell Kn.of
  simp only
  split at this
  · rename_i hb
    simp only at hb
    rw [hb]; simpa using this
  · cases this

/-- nothing that was there is written -/
theorem Sat.keep (h : Sat K w Hs) (m : Mod [] w w') : Sat K w' Hs :=
  ⟨m.os.trans h.os, m.tape.trans h.tape, m.output.trans h.output, Nat.le_trans h.size m.size, fun b o hb => m.obj (h.ro b o hb) (by simp), h.nd, fun p hp => m.obj (h.obj p hp) (by simp), h.ap⟩
theorem Sat.drew (h : Sat K w Hs) : Sat K w.drew Hs := h.keep (Mod.drew _ _)
abbrev SatS (_ : Sat K w Hs) : World → Prop := fun w1 => Sat K w1 Hs
/-- the first piece is written, or grows -/
theorem Sat.upd {F' : Hl} (h : Sat K w (F :: R)) (m : Mod (F.map (·.1)) w w') (hn : (F'.map (·.1)).Nodup) (ho : ∀ p ∈ F', w'.heap[p.1]? = some p.2) (hf : ∀ p ∈ F', p.1 ∈ F.map (·.1) ∨ w.heap.size ≤ p.1) : Sat K w' (F' :: R) := by
  have hnd := h.nd
  simp only [List.flatten_cons, List.map_append, List.nodup_append] at hnd
  obtain ⟨n1, n2, n3⟩ := hnd
  have hRF : ∀ p ∈ R.flatten, p.1 ∉ F.map (·.1) := fun p hp hm => n3 _ hm _ (List.mem_map_of_mem hp) rfl
  have hKF : ∀ b o, K.ro b = some o → b ∉ F.map (·.1) := fun b o hb hm => by
    obtain ⟨p, hp, rfl⟩ := List.mem_map.1 hm
    have := h.ap p (by simp [hp])
    rw [this] at hb; cases hb
  refine ⟨m.os.trans h.os, m.tape.trans h.tape, m.output.trans h.output, Nat.le_trans h.size m.size, fun b o hb => m.obj (h.ro b o hb) (hKF b o hb), ?_, ?_, ?_⟩
  · simp only [List.flatten_cons, List.map_append, List.nodup_append]
    refine ⟨hn, n2, ?_⟩
    intro a ha b hb hab
    subst hab
    obtain ⟨p, hp, rfl⟩ := List.mem_map.1 ha
    obtain ⟨q, hq, hqp⟩ := List.mem_map.1 hb
    rcases hf p hp with h1 | h1
    · exact n3 _ h1 _ hb rfl
    · have := blk_lt (h.obj q (by simp only [List.flatten_cons, List.mem_append]; exact .inr hq))
      rw [hqp] at this; omega
  · intro p hp
    simp only [List.flatten_cons, List.mem_append] at hp
    rcases hp with hp | hp
    · exact ho p hp
    · exact m.obj (h.obj p (by simp only [List.flatten_cons, List.mem_append]; exact .inr hp)) (hRF p hp)
  · intro p hp
    simp only [List.flatten_cons, List.mem_append] at hp
    rcases hp with hp | hp
    · rcases hf p hp with h1 | h1
      · obtain ⟨q, hq, hqp⟩ := List.mem_map.1 h1
        rw [← hqp]; exact h.ap q (by simp [hq])
      · cases hk : K.ro p.1 with
        | none => rfl
        | some o => have := blk_lt (h.ro _ _ hk); omega
    · exact h.ap p (by simp only [List.flatten_cons, List.mem_append]; exact .inr hp)
theorem Sat.new {b : Nat} {t : TypeId} {l : List Value} (h : Sat K w Hs) (n : New w w' b t l) : Sat K w' (row b t l :: Hs) :=
  h.nil.upd (n.mod.mono (by simp)) (by simp [row]) (fun p hp => by simp [row] at hp; subst hp; exact n.blk) (fun p hp => by simp [row] at hp; subst hp; exact .inr n.ge)
theorem Sat.put {b : Nat} {t t' : TypeId} {l l' : List Value} (h : Sat K w (row b t l :: R)) (k : Blk w' b t' l') (m : Mod [b] w w') : Sat K w' (row b t' l' :: R) :=
  h.upd (m.mono (by simp [row])) (by simp [row]) (fun p hp => by simp [row] at hp; subst hp; exact k) (fun p hp => by simp [row] at hp; subst hp; exact .inl (by simp [row]))

/-- what is known stays known -/
structure Kn.le (K K' : Kn) : Prop where
  w : K.w = K'.w
  ro : ∀ b o, K.ro b = some o → K'.ro b = some o
theorem Kn.le.refl (K : Kn) : K.le K := ⟨rfl, fun _ _ h => h⟩
theorem Kn.le.trans {K1 K2 K3 : Kn} (h : K1.le K2) (k : K2.le K3) : K1.le K3 := ⟨h.w.trans k.w, fun b o hb => k.ro b o (h.ro b o hb)⟩
theorem KAt.mono {b off : Nat} {cs : List Value} (h : KAt K b off cs) (k : K.le K') : KAt K' b off cs := fun i v hv => by
  have := h i v hv
  unfold Kn.cell at this ⊢
  split at this
  · rename_i hro; rw [k.ro _ _ hro]; exact this
  · cases this
def Kn.add (K : Kn) (F : Hl) : Kn := ⟨K.w, fun b => match F.find? (fun p => p.1 == b) with | some p => some p.2 | none => K.ro b⟩
/-- nobody writes the first piece any more -/
theorem Sat.freeze (h : Sat K w (F :: R)) : K.le (K.add F) ∧ Sat (K.add F) w R ∧ ∀ p ∈ F, (K.add F).ro p.1 = some p.2 := by
  have hnd := h.nd
  simp only [List.flatten_cons, List.map_append, List.nodup_append] at hnd
  obtain ⟨n1, n2, n3⟩ := hnd
  have key : ∀ p ∈ F, (K.add F).ro p.1 = some p.2 := by
    intro p hp
    simp only [Kn.add]
    cases hf : F.find? (fun q => q.1 == p.1) with
    | none => have := List.find?_eq_none.1 hf p hp; simp at this
    | some q =>
      have h1 := List.mem_of_find?_eq_some hf
      have h2 : q.1 = p.1 := by simpa using List.find?_some hf
      have := h.obj q (by simp [h1])
      have h3 := h.obj p (by simp [hp])
      rw [h2, h3] at this
      simpa using this.symm
  have other : ∀ b, b ∉ F.map (·.1) → (K.add F).ro b = K.ro b := by
    intro b hb
    simp only [Kn.add]
    cases hf : F.find? (fun q => q.1 == b) with
    | none => rfl
    | some q =>
      have h1 := List.mem_of_find?_eq_some hf
      have h2 : q.1 = b := by simpa using List.find?_some hf
      exact absurd (List.mem_map.2 ⟨q, h1, h2⟩) hb
  refine ⟨⟨rfl, fun b o hb => ?_⟩, ⟨h.os, h.tape, h.output, h.size, fun b o hb => ?_, n2, fun p hp => h.obj p (by simp only [List.flatten_cons, List.mem_append]; exact .inr hp), fun p hp => ?_⟩, key⟩
  · rw [other b]; exact hb
    intro hm
    obtain ⟨p, hp, rfl⟩ := List.mem_map.1 hm
    have := h.ap p (by simp [hp])
    rw [this] at hb; cases hb
  · by_cases hm : b ∈ F.map (·.1)
    · obtain ⟨p, hp, rfl⟩ := List.mem_map.1 hm
      rw [key p hp] at hb
      have := h.obj p (by simp [hp])
      rw [this]; simpa using hb
    · rw [other b hm] at hb; exact h.ro b o hb
  · rw [other]
    · exact h.ap p (by simp only [List.flatten_cons, List.mem_append]; exact .inr hp)
    · intro hm; exact n3 _ hm _ (List.mem_map_of_mem hp) rfl

/-! rows: a slice value, its elements' cells, the piece it owns -/
def RowV (e : TypeId) (sz : Nat) (v : Value) (n : Nat) (xs : List Value) (F : Hl) : Prop :=
  xs.length = n * sz ∧ ((v = .slice none 0 0 ∧ n = 0 ∧ F = []) ∨ ∃ g cap cur, v = .slice (some ⟨g, 0, none⟩) n cap ∧ F = row g e (xs ++ cur) ∧ n ≤ cap ∧ cap ≤ maxLen ∧ (xs ++ cur).length = cap * sz)
/-- the row of a slice value: its elements, the piece it owns -/
class RowL {α : outParam Type} (e : outParam TypeId) (enc : outParam (α → List Value)) (sz : outParam Nat) (v : Value) (L : outParam (List α)) (F : outParam Hl) : Prop where
  row : RowV e sz v L.length (L.flatMap enc) F
  size : ∀ y ∈ L, (enc y).length = sz

theorem RowV.nil (e : TypeId) (sz : Nat) : RowV e sz (.slice none 0 0) 0 [] [] := ⟨by simp, .inl ⟨rfl, rfl, rfl⟩⟩
theorem RowL.nil {α : Type} (e : TypeId) (enc : α → List Value) (sz : Nat) : RowL e enc sz (.slice none 0 0) [] [] := ⟨RowV.nil e sz, by simp⟩
theorem RowV.own {e : TypeId} {sz : Nat} {v : Value} {n : Nat} {xs : List Value} (h : RowV e sz v n xs F) (hs : Sat K w (F :: R)) : w.ownsRow 0 e sz v n xs := by
  rcases h.2 with ⟨rfl, h0, _⟩ | ⟨g, cap, cur, rfl, rfl, h1, h2, h3⟩
  · exact ⟨h.1, .inl ⟨rfl, h0⟩⟩
  · exact own_mk h.1 (Nat.zero_le _) hs.blk h1 h2 h3
theorem RowV.blocks {e : TypeId} {sz : Nat} {v : Value} {n : Nat} {xs : List Value} (h : RowV e sz v n xs F) : F.map (·.1) = v.ownBlock.toList := by
  rcases h.2 with ⟨rfl, h0, rfl⟩ | ⟨g, cap, cur, rfl, rfl, h1, h2, h3⟩ <;> rfl
theorem RowV.after {e e' : TypeId} {sz sz' : Nat} {v v' : Value} {n n' : Nat} {xs xs' : List Value} (h : RowV e sz v n xs F) (hs : Sat K w (F :: R)) (ho : w'.ownsRow 0 e' sz' v' n' xs') (m : Mod v.ownBlock.toList w w') (hb : v'.ownBlock = v.ownBlock ∨ v'.ownBlock = some w.heap.size) :
    ∃ F', RowV e' sz' v' n' xs' F' ∧ Sat K w' (F' :: R) := by
  rcases own_blk ho with ⟨rfl, h0, rfl⟩ | ⟨g, cap, cur, rfl, h1, h2, h3, h4, h5⟩
  · exact ⟨[], ⟨ho.1, .inl ⟨rfl, h0, rfl⟩⟩, hs.upd (m.mono (by rw [h.blocks]; exact fun _ h => h)) (by simp) (by simp) (by simp)⟩
  · refine ⟨row g e' (xs' ++ cur), ⟨ho.1, .inr ⟨g, cap, cur, rfl, rfl, h3, h4, h5⟩⟩, hs.upd (m.mono (by rw [h.blocks]; exact fun _ h => h)) (by simp [Eng.row]) (fun p hp => ?_) (fun p hp => ?_)⟩
    · simp [Eng.row] at hp; subst hp; exact h2
    · simp [Eng.row] at hp; subst hp
      rw [h.blocks]
      rcases hb with hb | hb
      · left; rw [← hb]; simp [Value.ownBlock]
      · right; simp [Value.ownBlock] at hb; omega
theorem RowV.new {e' : TypeId} {sz' : Nat} {v' : Value} {n' : Nat} {xs' : List Value} (hs : Sat K w Hs) (ho : w'.ownsRow w.heap.size e' sz' v' n' xs') (m : Mod [] w w') : ∃ F', RowV e' sz' v' n' xs' F' ∧ Sat K w' (F' :: Hs) := by
  rcases own_blk ho with ⟨rfl, h0, rfl⟩ | ⟨g, cap, cur, rfl, h1, h2, h3, h4, h5⟩
  · exact ⟨[], ⟨ho.1, .inl ⟨rfl, h0, rfl⟩⟩, (hs.keep m).nil⟩
  · refine ⟨row g e' (xs' ++ cur), ⟨ho.1, .inr ⟨g, cap, cur, rfl, rfl, h3, h4, h5⟩⟩, hs.nil.upd (m.mono (by simp)) (by simp [Eng.row]) (fun p hp => ?_) (fun p hp => ?_)⟩
    · simp [Eng.row] at hp; subst hp; exact h2
    · simp [Eng.row] at hp; subst hp; exact .inr h1
theorem RowL.sl {α : Type} {e : TypeId} {enc : α → List Value} {sz : Nat} {v : Value} {L : List α} (h : RowL e enc sz v L F) (hs : Sat K w (F :: R)) : ∃ ad cap, v = .slice ad L.length cap ∧ SlE enc sz w ad L.length L ∧ L.length ≤ cap :=
  SlE.ofOwn (h.row.own hs) h.size rfl
/-- the value alone -/
theorem RowL.val {α : Type} {e : TypeId} {enc : α → List Value} {sz : Nat} {v : Value} {L : List α} (h : RowL e enc sz v L F) : ∃ ad cap, v = .slice ad L.length cap ∧ L.length ≤ cap ∧ cap ≤ maxLen ∧ (L ≠ [] → ∃ g, ad = some ⟨g, 0, none⟩) := by
  rcases h.row.2 with ⟨rfl, h0, _⟩ | ⟨g, cap, cur, rfl, _, h1, h2, _⟩
  · exact ⟨none, 0, by rw [h0], by omega, by unfold maxLen; omega, fun hn => absurd (List.length_eq_zero_iff.1 h0) hn⟩
  · exact ⟨_, cap, rfl, h1, h2, fun _ => ⟨g, rfl⟩⟩
/-- a slice that is only read, for good -/
structure KSl {α : Type} (enc : α → List Value) (sz : Nat) (K : Kn) (ad : Option Addr) (n : Nat) (L : List α) : Prop where
  len : L.length = n
  size : ∀ y ∈ L, (enc y).length = sz
  at_ : L ≠ [] → ∃ b off, ad = some ⟨b, off, none⟩ ∧ KAt K b off (L.flatMap enc)
theorem KSl.sl {α : Type} {enc : α → List Value} {sz : Nat} {ad : Option Addr} {n : Nat} {L : List α} (h : KSl enc sz K ad n L) (hs : Sat K w Hs) : SlE enc sz w ad n L :=
  ⟨h.len, h.size, fun hn => by obtain ⟨b, off, h1, h2⟩ := h.at_ hn; exact ⟨b, off, h1, h2.at hs⟩⟩
theorem KSl.of {α : Type} {enc : α → List Value} {sz : Nat} {ad : Option Addr} {n : Nat} {L : List α} (h : SlE enc sz w ad n L) : KSl enc sz (Kn.of w) ad n L :=
  ⟨h.len, h.size, fun hn => by obtain ⟨b, off, h1, h2⟩ := h.at_ hn; exact ⟨b, off, h1, KAt.of h2⟩⟩
theorem KSl.mono {α : Type} {enc : α → List Value} {sz : Nat} {ad : Option Addr} {n : Nat} {L : List α} (h : KSl enc sz K ad n L) (k : K.le K') : KSl enc sz K' ad n L :=
  ⟨h.len, h.size, fun hn => by obtain ⟨b, off, h1, h2⟩ := h.at_ hn; exact ⟨b, off, h1, h2.mono k⟩⟩
/-- a row is frozen -/
theorem RowL.freeze {α : Type} {e : TypeId} {enc : α → List Value} {sz : Nat} {v : Value} {L : List α} (h : RowL e enc sz v L F) (hs : Sat K w (F :: R)) :
    ∃ K' ad cap, K.le K' ∧ Sat K' w R ∧ v = .slice ad L.length cap ∧ KSl enc sz K' ad L.length L ∧ L.length ≤ cap := by
  obtain ⟨h1, h2, h3⟩ := hs.freeze
  rcases h.row.2 with ⟨rfl, h0, rfl⟩ | ⟨g, cap, cur, rfl, rfl, hc, hm, hl⟩
  · exact ⟨_, none, 0, h1, h2, by rw [h0], ⟨rfl, h.size, fun hn => absurd (List.length_eq_zero_iff.1 h0) hn⟩, by omega⟩
  · refine ⟨_, _, cap, h1, h2, rfl, ⟨rfl, h.size, fun _ => ⟨g, 0, rfl, fun i v hv => ?_⟩⟩, hc⟩
    have := h3 (g, .cells (L.flatMap enc ++ cur).toArray e (0, 0)) (by simp [Eng.row])
    simp only at this
    unfold Kn.cell
    rw [this]
    simp only [Nat.zero_add]
    have hlt : i < (L.flatMap enc).length := by
      rcases Nat.lt_or_ge i (L.flatMap enc).length with h' | h'
      · exact h'
      · rw [List.getElem?_eq_none h'] at hv; cases hv
    simpa [List.getElem?_append_left hlt] using hv
end

section ops
variable {P : Program} {Q : Post} {n : Nn} {g : Env} {w : World} {dst : Option Nat} {ty : TypeId} {pos : String} {af : Array Edge} {gu : Option (Nat × Bool)} {ops : Array Oper} {rest : List Oper} {d : Nat}
variable {t t' : TypeId} {x y z : Operand} {K : Kn} {Hs Rs : List Hl} {A B C D E F : Hl}

theorem R.sbox {v : Value} {e : TypeId} (hs : Sat K w Hs) (hx : look g x = some v) (hd : Nat.blt d n.sz = true) (k : ∀ b w', Sat K w' (row b e v.cells.toList :: Hs) → R P ops Q rest n ((d, .pointer (some ⟨b, 0, none⟩)) :: g) w') :
    R P ops Q (⟨some d, .box e x, ty, pos, af, none⟩ :: rest) n g w := R.box hx hd fun b w' h => k b w' (hs.new h)
theorem R.sboxA {cs : List Value} {e : TypeId} (hs : Sat K w Hs) (hx : look g x = some (.agg cs.toArray)) (hd : Nat.blt d n.sz = true) (k : ∀ b w', Sat K w' (row b e cs :: Hs) → R P ops Q rest n ((d, .pointer (some ⟨b, 0, none⟩)) :: g) w') :
    R P ops Q (⟨some d, .box e x, ty, pos, af, none⟩ :: rest) n g w := R.boxA hx hd fun b w' h => k b w' (hs.new h)
theorem R.sbox1 {v : Value} {e : TypeId} (hs : Sat K w Hs) (hx : look g x = some v) (h1 : v.oneCell' = true) (hd : Nat.blt d n.sz = true) (k : ∀ b w', Sat K w' (row b e [v] :: Hs) → R P ops Q rest n ((d, .pointer (some ⟨b, 0, none⟩)) :: g) w') :
    R P ops Q (⟨some d, .box e x, ty, pos, af, none⟩ :: rest) n g w := R.box1 hx h1 hd fun b w' h => k b w' (hs.new h)
theorem R.sallocA {zs : List Value} {e : TypeId} (hs : Sat K w Hs) (hz : zeroOf P e = some (.agg zs.toArray)) (hd : Nat.blt d n.sz = true) (k : ∀ b w', Sat K w' (row b e zs :: Hs) → R P ops Q rest n ((d, .pointer (some ⟨b, 0, none⟩)) :: g) w') :
    R P ops Q (⟨some d, .alloc e, ty, pos, af, none⟩ :: rest) n g w := R.allocA hz hd fun b w' h => k b w' (hs.new h)
theorem R.salloc1 {v : Value} {e : TypeId} (hs : Sat K w Hs) (hz : zeroOf P e = some v) (h1 : v.oneCell' = true) (hd : Nat.blt d n.sz = true) (k : ∀ b w', Sat K w' (row b e [v] :: Hs) → R P ops Q rest n ((d, .pointer (some ⟨b, 0, none⟩)) :: g) w') :
    R P ops Q (⟨some d, .alloc e, ty, pos, af, none⟩ :: rest) n g w := R.alloc1 hz h1 hd fun b w' h => k b w' (hs.new h)

/-! stores into the first piece -/
theorem R.sstore {b off : Nat} {v : Value} {bt : TypeId} {l : List Value} (hs : Sat K w (row b bt l :: Rs)) (hx : look g x = some (.pointer (some ⟨b, off, none⟩))) (hy : look g y = some v) {m : Nat} (hz : szOf P t = some m) (hm : v.cells.size = m)
    (hfit : off + v.cells.size ≤ l.length) (h1 : ∀ u ∈ v.cells.toList, u.oneCell' = true)
    (k : ∀ w', Sat K w' (row b bt (l.take off ++ v.cells.toList ++ l.drop (off + v.cells.size)) :: Rs) → R P ops Q rest n g w') :
    R P ops Q (⟨none, .store t x y, ty, pos, af, none⟩ :: rest) n g w := R.store hx hy hz hm hs.blk hfit h1 fun w' hb hm _ => k w' (hs.put hb hm)
theorem R.sstoreAll {b : Nat} {bt : TypeId} {l cs : List Value} {m : Nat} (hs : Sat K w (row b bt l :: Rs)) (hx : look g x = some (.pointer (some ⟨b, 0, none⟩))) (hy : look g y = some (.agg cs.toArray)) (hz : szOf P t = some m) (hl : l.length = m) (hc : cs.length = m) (h1 : ∀ u ∈ cs, u.oneCell' = true)
    (k : ∀ w', Sat K w' (row b bt cs :: Rs) → R P ops Q rest n g w') :
    R P ops Q (⟨none, .store t x y, ty, pos, af, none⟩ :: rest) n g w := R.storeAll hx hy hz hs.blk hl hc h1 fun w' hb hm _ => k w' (hs.put hb hm)
theorem R.sstore1 {b off : Nat} {v : Value} {bt : TypeId} {l : List Value} (hs : Sat K w (row b bt l :: Rs)) (hx : look g x = some (.pointer (some ⟨b, off, none⟩))) (hy : look g y = some v) (hz : szOf P t = some 1)
    (hfit : off < l.length) (h1 : v.oneCell' = true)
    (k : ∀ w', Sat K w' (row b bt (l.set off v) :: Rs) → R P ops Q rest n g w') :
    R P ops Q (⟨none, .store t x y, ty, pos, af, none⟩ :: rest) n g w := R.store1 hx hy hz hs.blk hfit h1 fun w' hb hm _ => k w' (hs.put hb hm)

/-! loads out of a piece -/
theorem Sat.c0 {b i : Nat} {bt : TypeId} {l : List Value} {v : Value} (hs : Sat K w (row b bt l :: Rs)) (h : l[i]? = some v) : w.cell? ⟨b, i, none⟩ = some v := by rw [hs.blk.cell]; exact h
theorem Sat.c1 {b i : Nat} {bt : TypeId} {l : List Value} {v : Value} (hs : Sat K w (A :: row b bt l :: Rs)) (h : l[i]? = some v) : w.cell? ⟨b, i, none⟩ = some v := hs.p1.c0 h
theorem Sat.c2 {b i : Nat} {bt : TypeId} {l : List Value} {v : Value} (hs : Sat K w (A :: B :: row b bt l :: Rs)) (h : l[i]? = some v) : w.cell? ⟨b, i, none⟩ = some v := hs.p2.c0 h
theorem Sat.c3 {b i : Nat} {bt : TypeId} {l : List Value} {v : Value} (hs : Sat K w (A :: B :: C :: row b bt l :: Rs)) (h : l[i]? = some v) : w.cell? ⟨b, i, none⟩ = some v := hs.p3.c0 h
theorem Sat.c4 {b i : Nat} {bt : TypeId} {l : List Value} {v : Value} (hs : Sat K w (A :: B :: C :: D :: row b bt l :: Rs)) (h : l[i]? = some v) : w.cell? ⟨b, i, none⟩ = some v := hs.p4.c0 h
theorem Sat.c5 {b i : Nat} {bt : TypeId} {l : List Value} {v : Value} (hs : Sat K w (A :: B :: C :: D :: E :: row b bt l :: Rs)) (h : l[i]? = some v) : w.cell? ⟨b, i, none⟩ = some v := hs.p5.c0 h
theorem Sat.a0 {b : Nat} {bt : TypeId} {l : List Value} (hs : Sat K w (row b bt l :: Rs)) : At w b 0 l := hs.blk.at
theorem Sat.a1 {b : Nat} {bt : TypeId} {l : List Value} (hs : Sat K w (A :: row b bt l :: Rs)) : At w b 0 l := hs.p1.a0
theorem Sat.a2 {b : Nat} {bt : TypeId} {l : List Value} (hs : Sat K w (A :: B :: row b bt l :: Rs)) : At w b 0 l := hs.p2.a0
theorem Sat.a3 {b : Nat} {bt : TypeId} {l : List Value} (hs : Sat K w (A :: B :: C :: row b bt l :: Rs)) : At w b 0 l := hs.p3.a0
theorem Sat.a4 {b : Nat} {bt : TypeId} {l : List Value} (hs : Sat K w (A :: B :: C :: D :: row b bt l :: Rs)) : At w b 0 l := hs.p4.a0
theorem Sat.a5 {b : Nat} {bt : TypeId} {l : List Value} (hs : Sat K w (A :: B :: C :: D :: E :: row b bt l :: Rs)) : At w b 0 l := hs.p5.a0
/-- a part of the cells -/
theorem At.part {b off : Nat} {cs c1 c2 c3 : List Value} (h : At w b off cs) (e : cs = c1 ++ (c2 ++ c3)) {k : Nat} (hk : k = off + c1.length) : At w b k c2 := by
  subst e hk
  exact h.app.2.app.1

/-! append onto the first piece -/
theorem R.sapp {s : Operand} {e : TypeId} {zv : Value} {sz by_ : Nat} {v : Value} {k : Nat} {xs : List Value} {bk off m c : Nat} {news : List Value}
    (hs : Sat K w (F :: Rs)) (hr : RowV e sz v k xs F) (hsx : look g s = some v) (hx : look g x = some (.slice (some ⟨bk, off, none⟩) m c)) (hu : P.underlying t = some (.slice e)) (hi : byOf P e = some (zv, sz, by_)) (hz : zv.cells.size = sz) (hd : Nat.blt d n.sz = true)
    (hn : At w bk off news) (hl : news.length = m * sz) (h1 : ∀ u ∈ news, u.oneCell' = true) (hsz : 0 < sz) (hb1 : k + m ≤ 9223372036854775807) (hb2 : (k + m) * by_ ≤ 140737488355328)
    (cont : ∀ v' w' F', RowV e sz v' (k + m) (xs ++ news) F' → Sat K w' (F' :: Rs) → R P ops Q rest n ((d, v') :: g) w') :
    R P ops Q (⟨some d, .call ⟨.builtin .append, #[s, x], #[t, t]⟩, ty, pos, af, none⟩ :: rest) n g w :=
  R.append hsx hx hu hi hz hd (hr.own hs) hn hl h1 hsz hb1 hb2 (Nat.zero_le _) fun v' w' ho hm hb _ => by
    obtain ⟨F', h1, h2⟩ := hr.after hs ho hm hb
    exact cont v' w' F' h1 h2
/-- elements of a list -/
theorem R.sappL {α : Type} {enc : α → List Value} {s : Operand} {e : TypeId} {zv : Value} {sz by_ : Nat} {v : Value} {L M : List α} {bk off m c : Nat}
    (hs : Sat K w (F :: Rs)) (hr : RowL e enc sz v L F) (hsx : look g s = some v) (hx : look g x = some (.slice (some ⟨bk, off, none⟩) m c)) (hu : P.underlying t = some (.slice e)) (hi : byOf P e = some (zv, sz, by_)) (hz : zv.cells.size = sz) (hd : Nat.blt d n.sz = true)
    (hn : At w bk off (M.flatMap enc)) (hm : M.length = m) (hM : ∀ y ∈ M, (enc y).length = sz) (h1 : ∀ y ∈ M, ∀ u ∈ enc y, u.oneCell' = true) (hsz : 0 < sz) (hb1 : L.length + m ≤ 9223372036854775807) (hb2 : (L.length + m) * by_ ≤ 140737488355328)
    (cont : ∀ v' w' F', RowL e enc sz v' (L ++ M) F' → Sat K w' (F' :: Rs) → R P ops Q rest n ((d, v') :: g) w') :
    R P ops Q (⟨some d, .call ⟨.builtin .append, #[s, x], #[t, t]⟩, ty, pos, af, none⟩ :: rest) n g w := by
  have hlen : (M.flatMap enc).length = m * sz := by
    rw [← hm]; clear hn hm hb1 hb2 cont h1
    induction M with
    | nil => simp
    | cons y M ih => simp only [List.flatMap_cons, List.length_append, List.length_cons, hM y (by simp), ih (fun z hz => hM z (by simp [hz])), Nat.add_mul]; omega
  refine R.sapp hs hr.row hsx hx hu hi hz hd hn hlen ?_ hsz hb1 hb2 ?_
  · intro u hu
    obtain ⟨y, hy, hu⟩ := List.mem_flatMap.1 hu
    exact h1 y hy u hu
  · intro v' w' F' h2 h3
    refine cont v' w' F' ⟨by rw [List.length_append, List.flatMap_append, hm]; exact h2, ?_⟩ h3
    intro y hy
    rcases List.mem_append.1 hy with hy | hy
    · exact hr.size y hy
    · exact hM y hy
end ops
end Go.Eng
