/-
  Pieces of the heap found by instances: what is owned, what is known for good, which list it holds (over any program).
-/
import Derived.Test.YtifghjeapfijkaaGreatDoorPure
namespace Go.Eng
open Go.RowKit

/-- m bytes -/
abbrev Vec (m : Nat) := {l : List UInt8 // l.length = m}
abbrev encV {m : Nat} (a : Vec m) : List Value := a.1.map ub
theorem encV_len {m : Nat} (a : Vec m) : (a.1.map ub).length = m := len_ub a.2
theorem encV_one {m : Nat} (a : Vec m) : ∀ u ∈ encV a, u.oneCell' = true := ub_all _
/-- an encoding of elements: so many cells, each of them one cell -/
class Enc {α : Type} (enc : α → List Value) (sz : outParam Nat) : Prop where
  len : ∀ y, (enc y).length = sz
  one : ∀ y, ∀ u ∈ enc y, u.oneCell' = true
instance {m : Nat} : Enc (encV (m := m)) m := ⟨encV_len, encV_one⟩
theorem cellsEq_vec {m : Nat} (a b : Vec m) : cellsEq (a.1.map ub) (b.1.map ub) = decide (a = b) := by
  rw [cellsEq_ub, Bool.eq_iff_iff]; simp [Subtype.ext_iff]
theorem fitsAll_mk : ∀ {l1 l2 : List Leaf} {v1 v2 : List Value}, fitsAll l1 v1 = true → fitsAll l2 v2 = true → fitsAll (l1 ++ l2) (v1 ++ v2) = true
  | [], _, [], _, _, h => h
  | [], _, _ :: _, _, h, _ => by simp [fitsAll] at h
  | _ :: _, _, [], _, h, _ => by simp [fitsAll] at h
  | a :: l1, l2, v :: v1, v2, h, k => by
    simp only [fitsAll, Bool.and_eq_true] at h
    simp [fitsAll, h.1, fitsAll_mk h.2 k]
/-- block b with what it holds is among the pieces -/
class InH (b : Nat) (o : outParam Obj) (Hs : List Hl) : Prop where
  mem : (b, o) ∈ Hs.flatten
instance InH.tail {b : Nat} {o : Obj} {A : Hl} {Hs : List Hl} [h : InH b o Hs] : InH b o (A :: Hs) := ⟨by simp only [List.flatten_cons, List.mem_append]; exact .inr h.mem⟩
instance InH.headApp {b : Nat} {t : TypeId} {l : List Value} {G : Hl} {Hs : List Hl} : InH b (.cells l.toArray t (0, 0)) ((row b t l ++ G) :: Hs) := ⟨by simp [row]⟩
instance InH.head {b : Nat} {t : TypeId} {l : List Value} {Hs : List Hl} : InH b (.cells l.toArray t (0, 0)) (row b t l :: Hs) := ⟨by simp [row]⟩
/-- piece F is among the pieces -/
class FIn (F : Hl) (Hs : List Hl) : Prop where
  sub : ∀ p ∈ F, p ∈ Hs.flatten
instance FIn.tail {F A : Hl} {Hs : List Hl} [h : FIn F Hs] : FIn F (A :: Hs) := ⟨fun p hp => by simp only [List.flatten_cons, List.mem_append]; exact .inr (h.sub p hp)⟩
instance FIn.headApp {F A : Hl} {Hs : List Hl} : FIn F ((A ++ F) :: Hs) := ⟨fun p hp => by simp only [List.flatten_cons, List.mem_append]; exact .inl (.inr hp)⟩
instance FIn.head {F : Hl} {Hs : List Hl} : FIn F (F :: Hs) := ⟨fun p hp => by simp only [List.flatten_cons, List.mem_append]; exact .inl hp⟩
theorem FIn.app {A B : Hl} {Hs : List Hl} (h : FIn (A ++ B) Hs) : FIn A Hs ∧ FIn B Hs := ⟨⟨fun p hp => h.sub p (by simp [hp])⟩, ⟨fun p hp => h.sub p (by simp [hp])⟩⟩
theorem FIn.row {b : Nat} {t : TypeId} {l : List Value} {Hs : List Hl} (h : FIn (row b t l) Hs) : InH b (.cells l.toArray t (0, 0)) Hs := ⟨h.sub _ (by simp [Eng.row])⟩
theorem FIn.mono {F G : Hl} {Hs : List Hl} (h : FIn F Hs) (k : ∀ p ∈ G, p ∈ F) : FIn G Hs := ⟨fun p hp => h.sub p (k p hp)⟩
/-- piece F with its place, which may be given to another piece -/
class Ctx (F : Hl) (Hs : List Hl) (C : outParam (Hl → List Hl)) (Rs : outParam (List Hl)) : Prop where
  eq : Hs = C F
  perm : ∀ X : Hl, (C X).flatten.Perm (X :: Rs).flatten
instance Ctx.tail {F A : Hl} {Hs : List Hl} {C : Hl → List Hl} {Rs : List Hl} [h : Ctx F Hs C Rs] : Ctx F (A :: Hs) (fun X => A :: C X) (A :: Rs) :=
  ⟨by rw [h.eq], fun X => (flat_cons A (h.perm X)).trans (flat_swap X A Rs)⟩
instance Ctx.head {F : Hl} {Rs : List Hl} : Ctx F (F :: Rs) (fun X => X :: Rs) Rs := ⟨rfl, fun _ => List.Perm.refl _⟩
class CtxB (b : Nat) (t : outParam TypeId) (l : outParam (List Value)) (Hs : List Hl) (C : outParam (Hl → List Hl)) (Rs : outParam (List Hl)) : Prop where
  ctx : Ctx (row b t l) Hs C Rs
instance CtxB.tail {b : Nat} {t : TypeId} {l : List Value} {A : Hl} {Hs : List Hl} {C : Hl → List Hl} {Rs : List Hl} [h : CtxB b t l Hs C Rs] : CtxB b t l (A :: Hs) (fun X => A :: C X) (A :: Rs) := ⟨have := h.ctx; inferInstance⟩
instance CtxB.head {b : Nat} {t : TypeId} {l : List Value} {Rs : List Hl} : CtxB b t l (row b t l :: Rs) (fun X => X :: Rs) Rs := ⟨inferInstance⟩
/-- these pieces are among those -/
class SubP (Hs Gs : List Hl) : Prop where
  ex : ∃ R, Gs.flatten.Perm (Hs.flatten ++ R)
instance SubP.nil {Gs : List Hl} : SubP [] Gs := ⟨Gs.flatten, by simp⟩
instance SubP.tail {A : Hl} {Hs Gs : List Hl} [h : SubP Hs Gs] : SubP Hs (A :: Gs) := ⟨by
  obtain ⟨R, hp⟩ := h.ex
  refine ⟨A ++ R, ?_⟩
  simp only [List.flatten_cons]
  refine (List.Perm.append_left A hp).trans ?_
  simp only [← List.append_assoc]
  exact List.Perm.append_right _ List.perm_append_comm⟩
instance SubP.refl {Hs : List Hl} : SubP Hs Hs := ⟨[], by simp⟩
instance SubP.joinT {A B : Hl} {X Gs : List Hl} [h : SubP (A :: B :: X) Gs] : SubP ((A ++ B) :: X) Gs := ⟨by
  obtain ⟨R, hp⟩ := h.ex
  exact ⟨R, by simpa using hp⟩⟩
instance SubP.take {A : Hl} {X Gs : List Hl} {C : Hl → List Hl} {Rs : List Hl} [h : Ctx A Gs C Rs] [k : SubP X Rs] : SubP (A :: X) Gs := ⟨by
  obtain ⟨R, hp⟩ := k.ex
  refine ⟨R, ?_⟩
  have h1 := h.perm A
  rw [← h.eq] at h1
  refine h1.trans ?_
  simp only [List.flatten_cons, List.append_assoc]
  exact List.Perm.append_left A hp⟩

section
variable {K K' : Kn} {w w' : World} {Hs Gs Rs : List Hl} {F X : Hl} {C : Hl → List Hl}
theorem Sat.to (h : Sat K w Gs) [k : SubP Hs Gs] : Sat K w Hs := by
  obtain ⟨R, hp⟩ := k.ex
  have h1 : Sat K w (R :: Hs) := h.perm (by
    simp only [List.flatten_cons]
    exact (List.perm_append_comm.trans hp.symm))
  exact h1.drop
theorem Sat.front (h : Sat K w Hs) [c : Ctx F Hs C Rs] : Sat K w (F :: Rs) := h.perm (by
  have := c.perm F
  rw [← c.eq] at this
  exact this.symm)
theorem Sat.back {w0 : World} {K0 : Kn} (_ : Sat K0 w0 Hs) [c : Ctx F Hs C Rs] (h : Sat K w (X :: Rs)) : Sat K w (C X) := h.perm (c.perm X)
theorem Sat.back2 {w0 : World} {K0 : Kn} {Y : Hl} (_ : Sat K0 w0 Hs) [c : Ctx F Hs C Rs] (h : Sat K w (X :: Y :: Rs)) : Sat K w (X :: C Y) := h.perm (flat_cons X (c.perm Y))
theorem Sat.objIn {b : Nat} {o : Obj} (h : Sat K w Hs) [i : InH b o Hs] : w.heap[b]? = some o := h.obj (b, o) i.mem
theorem Sat.blkIn {b : Nat} {t : TypeId} {l : List Value} (h : Sat K w Hs) [i : InH b (.cells l.toArray t (0, 0)) Hs] : Blk w b t l := h.objIn (b := b) (o := .cells l.toArray t (0, 0))
theorem Sat.ld {b : Nat} {t : TypeId} {l : List Value} (h : Sat K w Hs) [i : InH b (.cells l.toArray t (0, 0)) Hs] {j : Nat} {v : Value} (hv : l[j]? = some v) : w.cell? ⟨b, j, none⟩ = some v := by rw [(h.blkIn (b := b)).cell]; exact hv
theorem Sat.ldA {b : Nat} {t : TypeId} {l : List Value} (h : Sat K w Hs) [i : InH b (.cells l.toArray t (0, 0)) Hs] : At w b 0 l := (h.blkIn (b := b)).at
theorem Sat.ldP {b : Nat} {t : TypeId} {l cs r : List Value} (h : Sat K w Hs) [i : InH b (.cells l.toArray t (0, 0)) Hs] (e : l = cs ++ r) : At w b 0 cs := by
  have := (h.blkIn (b := b)).at
  rw [e] at this; exact this.app.1
theorem Sat.ldM {b off : Nat} {t : TypeId} {l c1 c2 c3 : List Value} (h : Sat K w Hs) [i : InH b (.cells l.toArray t (0, 0)) Hs] (e : l = c1 ++ (c2 ++ c3)) (ho : off = c1.length) : At w b off c2 := (h.blkIn (b := b)).at.part e (by simpa using ho)

/-- a cell of an encoding, a part of an encoding -/
class CellOf (l : List Value) (i : Nat) (v : outParam Value) : Prop where
  eq : l[i]? = some v
class PartOf (l : List Value) (i m : Nat) (cs : outParam (List Value)) : Prop where
  eq : ∃ c1 c3, l = c1 ++ (cs ++ c3) ∧ c1.length = i ∧ cs.length = m
theorem At.cellC {b off i : Nat} {l : List Value} {v : Value} (h : At w b off l) [c : CellOf l i v] : w.cell? ⟨b, off + i, none⟩ = some v := h i v c.eq
theorem At.cell0 {b i : Nat} {l : List Value} {v : Value} (h : At w b 0 l) [c : CellOf l i v] : w.cell? ⟨b, i, none⟩ = some v := by have := h i v c.eq; rwa [Nat.zero_add] at this
theorem At.partC {b off i m : Nat} {l cs : List Value} (h : At w b off l) [c : PartOf l i m cs] : At w b (off + i) cs ∧ cs.length = m := by
  obtain ⟨c1, c3, e, h1, h2⟩ := c.eq
  exact ⟨h.part e (by rw [h1]), h2⟩
theorem At.part0 {b i m : Nat} {l cs : List Value} (h : At w b 0 l) [c : PartOf l i m cs] : At w b i cs ∧ cs.length = m := by
  have := h.partC (i := i) (m := m) (cs := cs); rwa [Nat.zero_add] at this
theorem Sat.ldc {b i : Nat} {t : TypeId} {l : List Value} {v : Value} (h : Sat K w Hs) [j : InH b (.cells l.toArray t (0, 0)) Hs] [c : CellOf l i v] : w.cell? ⟨b, i, none⟩ = some v := (h.ldA (b := b)).cell0
theorem Sat.ldp {b i m : Nat} {t : TypeId} {l cs : List Value} (h : Sat K w Hs) [j : InH b (.cells l.toArray t (0, 0)) Hs] [c : PartOf l i m cs] : At w b i cs ∧ cs.length = m := (h.ldA (b := b)).part0
theorem PartOf.mk' {l cs c1 c3 : List Value} {i m : Nat} (e : l = c1 ++ (cs ++ c3)) (h1 : c1.length = i) (h2 : cs.length = m) : PartOf l i m cs := ⟨c1, c3, e, h1, h2⟩
/-- what is known for good grows -/
class KLe (K : outParam Kn) (K' : Kn) : Prop where
  le : K.le K'
theorem KLe.refl (K : Kn) : KLe K K := ⟨Kn.le.refl K⟩
theorem KLe.trans {K1 K2 K3 : Kn} (h : KLe K1 K2) (k : KLe K2 K3) : KLe K1 K3 := ⟨h.le.trans k.le⟩
/-- a slice that is known for good -/
class KRow {α : outParam Type} (enc : outParam (α → List Value)) (sz : outParam Nat) (K : Kn) (v : Value) (L : outParam (List α)) : Prop where
  ex : ∃ ad cap, v = .slice ad L.length cap ∧ KSl enc sz K ad L.length L ∧ L.length ≤ cap
instance KRow.mono {α : Type} {enc : α → List Value} {sz : Nat} {K K' : Kn} {v : Value} {L : List α} [k : KLe K K'] [h : KRow enc sz K v L] : KRow enc sz K' v L := ⟨by
  obtain ⟨ad, cap, e, h1, h2⟩ := h.ex
  exact ⟨ad, cap, e, h1.mono k.le, h2⟩⟩
theorem KRow.nil {α : Type} {enc : α → List Value} {sz : Nat} {K : Kn} : KRow enc sz K (.slice none 0 0) ([] : List α) := ⟨none, 0, rfl, ⟨rfl, by simp, fun h => absurd rfl h⟩, Nat.le_refl _⟩
theorem KAt.app2 {b off : Nat} {c1 c2 : List Value} (h : KAt K b off (c1 ++ c2)) : KAt K b (off + c1.length) c2 := fun i v hv => by
  have := h (c1.length + i) v (by rw [List.getElem?_append_right (by omega)]; simpa using hv)
  rwa [← Nat.add_assoc] at this
theorem KSl.tail {α : Type} {enc : α → List Value} {sz : Nat} {ad : Option Addr} {m cap : Nat} {L : List α} (h : KSl enc sz K ad m L) (hc : m ≤ cap) {a : Nat} (h1 : a ≤ m) : KSl enc sz K (subAd ad cap a sz) (m - a) (L.drop a) := by
  refine ⟨by simp [h.len], fun y hy => h.size y (List.mem_of_mem_drop hy), fun hne => ?_⟩
  have hL : L ≠ [] := by intro e; rw [e] at hne; simp at hne
  have hlt : a < m := by
    rcases Nat.lt_or_ge a m with h' | h'
    · exact h'
    · rw [List.drop_eq_nil_of_le (by rw [h.len]; omega)] at hne; exact absurd rfl hne
  obtain ⟨b, off, rfl, hat⟩ := h.at_ hL
  refine ⟨b, off + a * sz, by simp only [subAd, Option.map_some]; rw [if_neg (by omega), add_at], ?_⟩
  rw [← List.take_append_drop a L, List.flatMap_append] at hat
  have hl : ((L.take a).flatMap enc).length = a * sz := by
    rw [flatMap_len (fun y hy => h.size y (List.mem_of_mem_take hy))]; simp [h.len]; rw [Nat.min_eq_left (by omega)]
  have := hat.app2
  rwa [hl] at this
theorem RowL.freezeK {α : Type} {e : TypeId} {enc : α → List Value} {sz : Nat} {v : Value} {L : List α} (h : RowL e enc sz v L F) (hs : Sat K w (F :: Rs)) : ∃ K', KLe K K' ∧ KRow enc sz K' v L ∧ Sat K' w Rs := by
  obtain ⟨K', ad, cap, h1, h2, h3, h4, h5⟩ := h.freeze hs
  exact ⟨K', ⟨h1⟩, ⟨ad, cap, h3, h4, h5⟩, h2⟩
/-- a slice that can be read as long as the pieces are there -/
class Rd {α : outParam Type} (enc : outParam (α → List Value)) (sz : outParam Nat) (K : Kn) (Hs : List Hl) (v : Value) (L : outParam (List α)) : Prop where
  ex : ∃ ad cap, v = .slice ad L.length cap ∧ L.length ≤ cap ∧ (∀ y ∈ L, (enc y).length = sz) ∧ ∀ w, Sat K w Hs → SlE enc sz w ad L.length L
theorem Sat.less (h : Sat K' w Hs) (k : K.le K') : Sat K w Hs :=
  ⟨by rw [k.w]; exact h.os, by rw [k.w]; exact h.tape, by rw [k.w]; exact h.output, by rw [k.w]; exact h.size, fun b o hb => h.ro b o (k.ro b o hb), h.nd, h.obj, fun p hp => by
    cases hk : K.ro p.1 with
    | none => rfl
    | some o => have := k.ro _ _ hk; rw [h.ap p hp] at this; cases this⟩
instance Rd.monoK {α : Type} {enc : α → List Value} {sz : Nat} {K K' : Kn} {Hs : List Hl} {v : Value} {L : List α} [k : KLe K K'] [h : Rd enc sz K Hs v L] : Rd enc sz K' Hs v L := ⟨by
  obtain ⟨ad, cap, e, h1, h2, h3⟩ := h.ex
  exact ⟨ad, cap, e, h1, h2, fun w hs => h3 w (hs.less k.le)⟩⟩
instance Rd.tail {α : Type} {enc : α → List Value} {sz : Nat} {K : Kn} {A : Hl} {Hs : List Hl} {v : Value} {L : List α} [h : Rd enc sz K Hs v L] : Rd enc sz K (A :: Hs) v L := ⟨by
  obtain ⟨ad, cap, e, h1, h2, h3⟩ := h.ex
  exact ⟨ad, cap, e, h1, h2, fun w hs => h3 w hs.drop⟩⟩
theorem RowV.ownIn {e : TypeId} {sz : Nat} {v : Value} {n : Nat} {xs : List Value} (h : RowV e sz v n xs F) [k : FIn F Hs] (hs : Sat K w Hs) : w.ownsRow 0 e sz v n xs := by
  rcases h.2 with ⟨rfl, h0, _⟩ | ⟨g, cap, cur, rfl, rfl, h1, h2, h3⟩
  · exact ⟨h.1, .inl ⟨rfl, h0⟩⟩
  · have := k.row
    exact own_mk h.1 (Nat.zero_le _) hs.blkIn h1 h2 h3
instance Rd.ofK {α : Type} {enc : α → List Value} {sz : Nat} {K : Kn} {Hs : List Hl} {v : Value} {L : List α} [h : KRow enc sz K v L] : Rd enc sz K Hs v L := ⟨by
  obtain ⟨ad, cap, e, h1, h2⟩ := h.ex
  exact ⟨ad, cap, e, h2, h1.size, fun w hs => h1.sl hs⟩⟩
instance Rd.ofRow {α : Type} {e : TypeId} {enc : α → List Value} {sz : Nat} {K : Kn} {Hs : List Hl} {v : Value} {L : List α} {F : Hl} [h : RowL e enc sz v L F] [k : FIn F Hs] : Rd enc sz K Hs v L := ⟨by
  obtain ⟨ad, cap, e, h1, _, _⟩ := h.val
  refine ⟨ad, cap, e, h1, h.size, fun w hs => ?_⟩
  obtain ⟨ad', cap', e', h3, _⟩ := SlE.ofOwn (h.row.ownIn hs) h.size rfl
  rw [e] at e'
  simp only [Value.slice.injEq] at e'
  obtain ⟨rfl, _, rfl⟩ := e'
  exact h3⟩
theorem Sat.el {α : Type} {enc : α → List Value} {sz : Nat} {ad : Option Addr} {n c : Nat} {L : List α} (hs : Sat K w Hs) [r : Rd enc sz K Hs (.slice ad n c) L] {i : Nat} (h : i < n) :
    ∃ y b off, L[i]? = some y ∧ y ∈ L ∧ (enc y).length = sz ∧ ad = some ⟨b, off, none⟩ ∧ ∀ w', Sat K w' Hs → At w' b (off + i * sz) (enc y) := by
  obtain ⟨ad', cap', he, h1, h2, h3⟩ := r.ex
  simp only [Value.slice.injEq] at he
  obtain ⟨rfl, rfl, rfl⟩ := he
  obtain ⟨y, hy, hym⟩ := (h3 w hs).nth h
  obtain ⟨b, off, e, _, _⟩ := (h3 w hs).get hy
  refine ⟨y, b, off, hy, hym, h2 y hym, e, fun w' hs' => ?_⟩
  obtain ⟨b', off', e', h4, _⟩ := (h3 w' hs').get hy
  rw [e] at e'
  simp only [Option.some.injEq, Addr.mk.injEq, and_true] at e'
  obtain ⟨rfl, rfl⟩ := e'
  exact h4
theorem Sat.elAt {α : Type} {enc : α → List Value} {sz : Nat} {b off n : Nat} (c : Nat) {L : List α} (hs : Sat K w Hs) [r : Rd enc sz K Hs (.slice (some ⟨b, off, none⟩) n c) L] {i : Nat} {y : α} (h : L[i]? = some y) : ∀ w', Sat K w' Hs → At w' b (off + i * sz) (enc y) := by
  obtain ⟨ad', cap', he, h1, h2, h3⟩ := r.ex
  simp only [Value.slice.injEq] at he
  obtain ⟨rfl, rfl, rfl⟩ := he
  intro w' hs'
  obtain ⟨b', off', e', h4, _⟩ := (h3 w' hs').get h
  simp only [Option.some.injEq, Addr.mk.injEq, and_true] at e'
  obtain ⟨rfl, rfl⟩ := e'
  exact h4
theorem Rd.len {α : Type} {enc : α → List Value} {sz : Nat} {ad : Option Addr} {n c : Nat} {L : List α} (r : Rd enc sz K Hs (.slice ad n c) L) : L.length = n ∧ n ≤ c := by
  obtain ⟨ad', cap', he, h1, _, _⟩ := r.ex
  simp only [Value.slice.injEq] at he
  obtain ⟨rfl, rfl, rfl⟩ := he
  exact ⟨rfl, h1⟩
theorem Rd.sl {α : Type} {enc : α → List Value} {sz : Nat} {ad : Option Addr} {n c : Nat} {L : List α} (r : Rd enc sz K Hs (.slice ad n c) L) : ∀ w', Sat K w' Hs → SlE enc sz w' ad n L := by
  obtain ⟨ad', cap', he, h1, _, h3⟩ := r.ex
  simp only [Value.slice.injEq] at he
  obtain ⟨rfl, rfl, rfl⟩ := he
  exact h3
theorem RowL.oneC {α : Type} {e : TypeId} {enc : α → List Value} {sz : Nat} {v : Value} {L : List α} {F : Hl} [h : RowL e enc sz v L F] : v.oneCell' = true := by
  obtain ⟨ad, cap, rfl, _⟩ := h.val; rfl
theorem KRow.oneC {α : Type} {enc : α → List Value} {sz : Nat} {K : Kn} {v : Value} {L : List α} [h : KRow enc sz K v L] : v.oneCell' = true := by
  obtain ⟨ad, cap, rfl, _⟩ := h.ex; rfl
theorem KRow.oneC' {α : Type} {enc : α → List Value} {sz : Nat} {K : Kn} {v : Value} {L : List α} (h : KRow enc sz K v L) : v.oneCell' = true := KRow.oneC (h := h)
class OneC (v : Value) : Prop where
  one : v.oneCell' = true
instance {α : Type} {e : TypeId} {enc : α → List Value} {sz : Nat} {v : Value} {L : List α} {F : Hl} [h : RowL e enc sz v L F] : OneC v := ⟨RowL.oneC⟩
instance {k : IntKind} {i : Int} : OneC (.int k i) := ⟨rfl⟩
instance {b : Bool} : OneC (.bool b) := ⟨rfl⟩
instance {b : ByteArray} : OneC (.string b) := ⟨rfl⟩
instance {a : Option Addr} : OneC (.pointer a) := ⟨rfl⟩
instance {a : Option Addr} {n c : Nat} : OneC (.slice a n c) := ⟨rfl⟩
instance {a : Option Nat} : OneC (.map a) := ⟨rfl⟩
instance {b : UInt8} : OneC (ub b) := ⟨rfl⟩
class OneL (l : List Value) : Prop where
  all : ∀ u ∈ l, u.oneCell' = true
instance : OneL [] := ⟨by simp⟩
instance {v : Value} {l : List Value} [h : OneC v] [k : OneL l] : OneL (v :: l) := ⟨fun u hu => by
  rcases List.mem_cons.1 hu with rfl | hu
  · exact h.one
  · exact k.all u hu⟩
instance {l l' : List Value} [h : OneL l] [k : OneL l'] : OneL (l ++ l') := ⟨fun u hu => by
  rcases List.mem_append.1 hu with hu | hu
  · exact h.all u hu
  · exact k.all u hu⟩
instance {l : List UInt8} : OneL (l.map ub) := ⟨ub_all l⟩
theorem RowL.nilI {α : Type} {e : TypeId} {enc : α → List Value} {sz : Nat} : RowL e enc sz (.slice none 0 0) ([] : List α) [] := RowL.nil e enc sz
end

section ops
variable {P : Program} {Q : Post} {n : Nn} {g : Env} {w : World} {dst : Option Nat} {ty : TypeId} {pos : String} {af : Array Edge} {gu : Option (Nat × Bool)} {ops : Array Oper} {rest : List Oper} {d : Nat}
variable {t t' : TypeId} {x y z : Operand} {K : Kn} {Hs Rs : List Hl} {F : Hl} {C : Hl → List Hl} {α : Type} {enc : α → List Value} {sz : Nat} {e : TypeId}
theorem E.fieldAddrN (o : Nat) {b off i : Nat} {fs : Array Field} {fd : Field} {m : Nat} (hx : look g x = some (.pointer (some ⟨b, off, none⟩))) (hu : P.underlying t = some (.struct fs)) (hf : fs[i]? = some fd) (hs : szOf P fd.type = some (m + 1)) (ho : fd.offset = o) :
    Ev P n g ⟨dst, .fieldAddr t x i, ty, pos, af, gu⟩ w (.pointer (some ⟨b, off + o, none⟩)) := ho ▸ E.fieldAddr hx hu hf hs
theorem E.fieldAddr0 (o : Nat) {b i : Nat} {fs : Array Field} {fd : Field} {m : Nat} (hx : look g x = some (.pointer (some ⟨b, 0, none⟩))) (hu : P.underlying t = some (.struct fs)) (hf : fs[i]? = some fd) (hs : szOf P fd.type = some (m + 1)) (ho : fd.offset = o) :
    Ev P n g ⟨dst, .fieldAddr t x i, ty, pos, af, gu⟩ w (.pointer (some ⟨b, o, none⟩)) := by
  have := E.fieldAddrN (n := n) (w := w) (dst := dst) (ty := ty) (pos := pos) (af := af) (gu := gu) o hx hu hf hs ho
  rwa [Nat.zero_add] at this
theorem E.indexAddrA0 (i o : Nat) {b len sz : Nat} {k : IntKind} {e : TypeId} (hx : look g x = some (.pointer (some ⟨b, 0, none⟩))) (hy : look g y = some (.int k (i : Nat))) (hu : P.underlying t = some (.array len e)) (hs : szOf P e = some sz) (hi : Nat.blt i len = true) (ho : i * sz = o) :
    Ev P n g ⟨dst, .indexAddr t x y, ty, pos, af, gu⟩ w (.pointer (some ⟨b, o, none⟩)) := by
  have := E.indexAddrA (w := w) (n := n) (dst := dst) (ty := ty) (pos := pos) (af := af) (gu := gu) hx hy hu hs rfl (by simpa [Nat.blt_eq] using hi)
  rwa [Nat.zero_add, ho] at this
theorem E.buildG {fs : Array Field} {zs : List Value} {pl : List (Nat × Nat)} {parts : List (Nat × Operand)} {vs : List Value} {r : List Value} (hv : lookAll g (parts.map (·.2)) = some vs) (hu : P.underlying t = some (.struct fs)) (hz : zeroOf P t = some (.agg zs.toArray)) (hp : plOf P t = some pl)
    (hc : (consec 0 pl && (fieldsOf zs pl).all (fun _ => true) && ((fieldsOf zs pl).flatten.length == zs.length) && ((fieldsOf zs pl).map (·.length) == pl.map (·.2))) = true) (hzs : (fieldsOf zs pl).flatten = zs)
    (hf : fitF pl ((parts.map (·.1)).zip vs)) (hr : (setF (fieldsOf zs pl) ((parts.map (·.1)).zip vs)).flatten = r) : Ev P n g ⟨dst, .build t parts.toArray, ty, pos, af, gu⟩ w (.agg r.toArray) := by
  unfold plOf at hp
  rw [hu] at hp
  exact E.buildF hv hu hz hp hc hzs hf hr
theorem E.neNil {p : Option Addr} {e t' : TypeId} (hx : look g x = some (.pointer p)) (hy : look g y = some (.pointer none)) (hu : P.underlying t = some (.pointer e)) : Ev P n g ⟨dst, .binOp .neq t x y t', ty, pos, af, gu⟩ w (.bool (!p.isNone)) := fun a f => by
  have hp : P.underlying t = some (.pointer (P.pointee t)) := by simp [Program.pointee, hu]
  have h := run_eql_pointer_nil w t p hp
  have hq : (Op.equal t (.pointer p) (.pointer none)).run P w = .ok p.isNone w := by
    cases p <;> simp only [binOp, Sem.run_bind] at h <;> revert h <;> generalize (Op.equal t _ _).run P w = r <;> intro h <;> cases r <;> simp [Result.andThen] at h <;> simp [h]
  cases p <;> simp [execOp, f.eval hx, f.eval hy, eqGuard, binOp, hq]
theorem E.neNilT {ad : Addr} {e t' : TypeId} (hx : look g x = some (.pointer (some ad))) (hy : look g y = some (.pointer none)) (hu : P.underlying t = some (.pointer e)) : Ev P n g ⟨dst, .binOp .neq t x y t', ty, pos, af, gu⟩ w (.bool true) := E.neNil hx hy hu
theorem E.neNilF {e t' : TypeId} (hx : look g x = some (.pointer none)) (hy : look g y = some (.pointer none)) (hu : P.underlying t = some (.pointer e)) : Ev P n g ⟨dst, .binOp .neq t x y t', ty, pos, af, gu⟩ w (.bool false) := E.neNil hx hy hu
theorem vsz {m : Nat} (a : Vec m) : (idV a.1).cells.size = m := by simp [idV, Value.cells, a.2]
theorem E.eqV (k : Nat) {m : Nat} {td : TypeDesc} {a b : Vec m} (hx : look g x = some (idV a.1)) (hy : look g y = some (idV b.1)) (hl : leaves P k t = some (List.replicate m (lInt .u8))) (hk : Nat.ble k 9999 = true) (hu : P.underlying t = some td) (ht : isAggD td = true) (hg : P.eqGuardType P.depth t = false) :
    Ev P n g ⟨dst, .binOp .eql t x y t', ty, pos, af, gu⟩ w (.bool (decide (a = b))) :=
  (E.eqId k m hx hy hl hk hu ht hg a.2 b.2).isB (by rw [Bool.eq_iff_iff]; simp [Subtype.ext_iff])
theorem E.neV (k : Nat) {m : Nat} {td : TypeDesc} {a b : Vec m} (hx : look g x = some (idV a.1)) (hy : look g y = some (idV b.1)) (hl : leaves P k t = some (List.replicate m (lInt .u8))) (hk : Nat.ble k 9999 = true) (hu : P.underlying t = some td) (ht : isAggD td = true) (hg : P.eqGuardType P.depth t = false) :
    Ev P n g ⟨dst, .binOp .neq t x y t', ty, pos, af, gu⟩ w (.bool (decide (a ≠ b))) :=
  (E.neId k m hx hy hl hk hu ht hg a.2 b.2).isB (by rw [Bool.eq_iff_iff]; simp [Subtype.ext_iff])
theorem E.loadRowC {b off m : Nat} {cs : List Value} {td : TypeDesc} (hx : look g x = some (.pointer (some ⟨b, off, none⟩))) (hu : P.underlying t = some td) (ht : isAggD td = true) (hs : szOf P t = some m) (hc : At w b off cs ∧ cs.length = m) :
    Ev P n g ⟨dst, .load t x, ty, pos, af, gu⟩ w (.agg cs.toArray) := E.loadRow hx hu ht hs hc.1 hc.2
theorem R.cstore1 {b off : Nat} {v : Value} {bt : TypeId} {l : List Value} (hs : Sat K w Hs) (hx : look g x = some (.pointer (some ⟨b, off, none⟩))) (hy : look g y = some v) (hz : szOf P t = some 1) [c : CtxB b bt l Hs C Rs]
    (hfit : off < l.length) (h1 : v.oneCell' = true) (k : ∀ w', Sat K w' (C (row b bt (l.set off v))) → R P ops Q rest n g w') :
    R P ops Q (⟨none, .store t x y, ty, pos, af, none⟩ :: rest) n g w := by
  have c := c.ctx
  exact R.sstore1 (hs.front (F := row b bt l)) hx hy hz hfit h1 fun w' h => k w' (hs.back (F := row b bt l) h)
theorem R.cstoreAll {b : Nat} {bt : TypeId} {l cs : List Value} {m : Nat} (hs : Sat K w Hs) (hx : look g x = some (.pointer (some ⟨b, 0, none⟩))) (hy : look g y = some (.agg cs.toArray)) (hz : szOf P t = some m) [c : CtxB b bt l Hs C Rs]
    (hl : l.length = m) (hc : cs.length = m) (h1 : ∀ u ∈ cs, u.oneCell' = true) (k : ∀ w', Sat K w' (C (row b bt cs)) → R P ops Q rest n g w') :
    R P ops Q (⟨none, .store t x y, ty, pos, af, none⟩ :: rest) n g w := by
  have c := c.ctx
  exact R.sstoreAll (hs.front (F := row b bt l)) hx hy hz hl hc h1 fun w' h => k w' (hs.back (F := row b bt l) h)
theorem R.cstore {b off : Nat} {bt : TypeId} {l cs : List Value} {m : Nat} (hs : Sat K w Hs) (hx : look g x = some (.pointer (some ⟨b, off, none⟩))) (hy : look g y = some (.agg cs.toArray)) (hz : szOf P t = some m) [c : CtxB b bt l Hs C Rs]
    (hc : cs.length = m) (hl : off + m ≤ l.length) (h1 : ∀ u ∈ cs, u.oneCell' = true) (k : ∀ w', Sat K w' (C (row b bt (l.take off ++ cs ++ l.drop (off + m)))) → R P ops Q rest n g w') :
    R P ops Q (⟨none, .store t x y, ty, pos, af, none⟩ :: rest) n g w := by
  have c := c.ctx
  subst hc
  exact R.sstore (hs.front (F := row b bt l)) hx hy hz (by simp [Value.cells]) (by simpa [Value.cells] using hl) (by simpa [Value.cells] using h1) fun w' h => k w' (hs.back (F := row b bt l) (by simpa [Value.cells] using h))
theorem R.capp1 (y1 : α) {s : Operand} {zv : Value} {by_ : Nat} {v : Value} {L : List α} {bk off c : Nat}
    (hs : Sat K w Hs) (hsx : look g s = some v) (hx : look g x = some (.slice (some ⟨bk, off, none⟩) 1 c)) (hu : P.underlying t = some (.slice e)) (hi : byOf P e = some (zv, sz, by_)) (hz : zv.cells.size = sz) (hd : Nat.blt d n.sz = true) [hr : RowL e enc sz v L F] [cx : Ctx F Hs C Rs] [en : Enc enc sz]
    (hn : At w bk off (enc y1)) (hsz : 0 < sz) (hb1 : L.length + 1 ≤ 9223372036854775807) (hb2 : (L.length + 1) * by_ ≤ 140737488355328)
    (cont : ∀ v' w' F', RowL e enc sz v' (L ++ [y1]) F' → Sat K w' (C F') → R P ops Q rest n ((d, v') :: g) w') :
    R P ops Q (⟨some d, .call ⟨.builtin .append, #[s, x], #[t, t]⟩, ty, pos, af, none⟩ :: rest) n g w :=
  R.sapp1 y1 (hs.front (F := F)) hr hsx hx hu hi hz hd hn (en.len _) (en.one _) hsz hb1 hb2 fun v' w' F' h2 h3 => cont v' w' F' h2 (hs.back (F := F) h3)
/-- []T{y0, y1, ..} -/
theorem R.cbuild (L : List α) {m : Nat} {zv : Value} {parts : List (Nat × Operand)} (hs : Sat K w Hs) [en : Enc enc sz] (hm : parts.length = m) (hv : lookAll g (parts.map (·.2)) = some (L.map fun y => Value.agg (enc y).toArray)) (hp : parts.map (·.1) = List.range parts.length) (hL : L.length = m) (hu : P.underlying t = some (.slice e)) (hz : szOf P e = some sz) (hzr : zeroOf P e = some zv)
    (hd : Nat.blt d n.sz = true) (hsz : 0 < sz) (hb : m * sz ≤ 16777216) (h0 : 0 < m) (cont : ∀ b w', RowL e enc sz (.slice (some ⟨b, 0, none⟩) m m) L (row b e (L.flatMap enc)) → Sat K w' (row b e (L.flatMap enc) :: Hs) → R P ops Q rest n ((d, .slice (some ⟨b, 0, none⟩) m m) :: g) w') :
    R P ops Q (⟨some d, .buildSlice t m parts.toArray, ty, pos, af, none⟩ :: rest) n g w := by
  subst hm
  have hf : ((L.map fun y => Value.agg (enc y).toArray).map fun v => v.cells.toList).flatten = L.flatMap enc := by simp [List.flatMap_def, Function.comp_def, Value.cells]
  refine R.buildSlice hv hp hu hz hzr hd (fun v hv' => ?_) hsz hb h0 ?_
  · obtain ⟨y, _, rfl⟩ := List.mem_map.1 hv'
    simp [Value.cells, en.len]
  · intro b w' hn
    rw [hf] at hn
    refine cont b w' ⟨⟨flatMap_len (fun y _ => en.len y), .inr ⟨b, parts.length, [], by rw [hL], by simp, by omega, by unfold maxLen; have := Nat.le_mul_of_pos_right parts.length hsz; omega, by simp [flatMap_len (fun y (_ : y ∈ L) => en.len y), hL]⟩⟩, fun y _ => en.len y⟩ (hs.new hn)
theorem R.cappSl {s : Operand} {zv : Value} {by_ : Nat} {v : Value} {L M : List α} {ad : Option Addr} {m c : Nat}
    (hs : Sat K w Hs) (hsx : look g s = some v) (hx : look g x = some (.slice ad m c)) (hu : P.underlying t = some (.slice e)) (hi : byOf P e = some (zv, sz, by_)) (hz : zv.cells.size = sz) (hd : Nat.blt d n.sz = true) [hr : RowL e enc sz v L F] [cx : Ctx F Hs C Rs] [hm : Rd enc sz K Hs (.slice ad m c) M] [en : Enc enc sz]
    (hsz : 0 < sz) (hb1 : L.length + M.length ≤ 9223372036854775807) (hb2 : (L.length + M.length) * by_ ≤ 140737488355328)
    (cont : ∀ v' w' F', RowL e enc sz v' (L ++ M) F' → Sat K w' (C F') → R P ops Q rest n ((d, v') :: g) w') :
    R P ops Q (⟨some d, .call ⟨.builtin .append, #[s, x], #[t, t]⟩, ty, pos, af, none⟩ :: rest) n g w := by
  obtain ⟨ad', cap', he, _, _, hrd⟩ := hm.ex
  simp only [Value.slice.injEq] at he
  obtain ⟨rfl, rfl, rfl⟩ := he
  exact R.sappSl (hs.front (F := F)) hr hsx hx hu hi hz hd (hrd w hs) (fun y _ => en.one y) hsz hb1 hb2 fun v' w' F' h2 h3 => cont v' w' F' h2 (hs.back (F := F) h3)
end ops
end Go.Eng
