/-
 Orders, plainly: bytes compared; lists in strictly ascending order; what is compacted, merged, inserted.
-/
import Derived.Test.YtbkgibgomohdjaaGreatDoorSortE
namespace Go.Eng
open Go.RowKit Go.Sort

theorem cmpL_refl : ∀ (l : List UInt8), cmpL l l = 0
 | [] => rfl
 | x :: l => by simp [cmpL, UInt8.lt_irrefl, cmpL_refl l]
theorem u8_tri (x y : UInt8) (h1 : ¬ x < y) (h2 : ¬ y < x) : x = y := by
 rw [UInt8.lt_iff_toNat_lt] at h1 h2
 exact UInt8.toNat_inj.1 (by omega)
theorem u8_asym {x y : UInt8} (h : x < y) : ¬ y < x := by
 rw [UInt8.lt_iff_toNat_lt] at h ⊢; omega
theorem cmpL_neg : ∀ (a b : List UInt8), cmpL b a = -(cmpL a b)
 | [], [] => rfl
 | [], _ :: _ => rfl
 | _ :: _, [] => rfl
 | x :: a, y :: b => by
   unfold cmpL
   by_cases h1 : x < y
   · rw [if_neg (u8_asym h1), if_pos h1, if_pos h1]; rfl
   · by_cases h2 : y < x
     · rw [if_pos h2, if_neg h1, if_pos h2]
     · rw [if_neg h2, if_neg h1, if_neg h1, if_neg h2, cmpL_neg a b]
theorem cmpL_zero : ∀ (a b : List UInt8), cmpL a b = 0 ↔ a = b
 | [], [] => by simp [cmpL]
 | [], _ :: _ => by simp [cmpL]
 | _ :: _, [] => by simp [cmpL]
 | x :: a, y :: b => by
   unfold cmpL
   by_cases h1 : x < y
   · rw [if_pos h1]
     simp only [List.cons.injEq]
     constructor
     · intro h; cases h
     · rintro ⟨rfl, _⟩; exact absurd h1 (UInt8.lt_irrefl x)
   · by_cases h2 : y < x
     · rw [if_neg h1, if_pos h2]
       simp only [List.cons.injEq]
       constructor
       · intro h; cases h
       · rintro ⟨rfl, _⟩; exact absurd h2 (UInt8.lt_irrefl x)
     · rw [if_neg h1, if_neg h2, cmpL_zero a b]
       have := u8_tri x y h1 h2
       subst this
       simp
theorem cmpL_trans : ∀ (a b c : List UInt8), cmpL a b < 0 → cmpL b c < 0 → cmpL a c < 0
 | [], [], _, h, _ => by simp [cmpL] at h
 | [], _ :: _, [], _, h => by simp [cmpL] at h
 | [], _ :: _, _ :: _, _, _ => by simp [cmpL]
 | _ :: _, [], _, h, _ => by simp [cmpL] at h
 | _ :: _, _ :: _, [], _, h => by simp [cmpL] at h
 | x :: a, y :: b, z :: c, h, k => by
   unfold cmpL at h k ⊢
   simp only [UInt8.lt_iff_toNat_lt] at h k ⊢
   by_cases h1 : x.toNat < y.toNat
   · by_cases k1 : y.toNat < z.toNat
     · rw [if_pos (by omega)]; decide
     · rw [if_neg k1] at k
       by_cases k2 : z.toNat < y.toNat
       · rw [if_pos k2] at k; omega
       · rw [if_pos (by omega)]; decide
   · rw [if_neg h1] at h
     by_cases h2 : y.toNat < x.toNat
     · rw [if_pos h2] at h; omega
     · rw [if_neg h2] at h
       by_cases k1 : y.toNat < z.toNat
       · rw [if_pos (by omega)]; decide
       · rw [if_neg k1] at k
         by_cases k2 : z.toNat < y.toNat
         · rw [if_pos k2] at k; omega
         · rw [if_neg k2] at k
           rw [if_neg (by omega), if_neg (by omega)]
           exact cmpL_trans a b c h k
/-- less, for bytes -/
def ltV {m : Nat} (a b : Vec m) : Bool := decide (cmpL a.1 b.1 < 0)
theorem ltV_tot {m : Nat} (a b : Vec m) (h1 : ltV a b = false) (h2 : ltV b a = false) : a = b := by
 have h1 := of_decide_eq_false h1
 have h2 := of_decide_eq_false h2
 rw [cmpL_neg] at h2
 exact Subtype.ext ((cmpL_zero _ _).1 (by omega))
theorem ltV_swo {m : Nat} : SWO (ltV (m := m)) where
 irrefl x := by simp [ltV, cmpL_refl]
 trans x y z h1 h2 := decide_eq_true (cmpL_trans _ _ _ (of_decide_eq_true h1) (of_decide_eq_true h2))
 ntrans x y z h1 h2 := by
   apply decide_eq_false
   intro h3
   have h1 := of_decide_eq_false h1
   have h2 := of_decide_eq_false h2
   have r1 := cmpL_neg x.1 y.1
   by_cases he : cmpL x.1 y.1 = 0
   · have := (cmpL_zero _ _).1 he
     rw [this] at h3; exact h2 h3
   · have : cmpL y.1 z.1 < 0 := cmpL_trans _ _ _ (by omega) h3
     exact h2 this

/-! lists in strictly ascending order -/
section
variable {α : Type} {lt : α → α → Bool}
def SS (lt : α → α → Bool) (L : List α) : Prop := L.Pairwise (fun x y => lt x y = true)
theorem asym (hw : SWO lt) {x y : α} (h : lt x y = true) : lt y x = false := by
 cases h2 : lt y x with
 | false => rfl
 | true => have := hw.trans x y x h h2; rw [hw.irrefl] at this; cases this
theorem ss_ext (hw : SWO lt) : ∀ {L M : List α}, SS lt L → SS lt M → (∀ x, x ∈ L ↔ x ∈ M) → L = M
 | [], [], _, _, _ => rfl
 | [], y :: M, _, _, h => by have := (h y).2 (by simp); simp at this
 | x :: L, [], _, _, h => by have := (h x).1 (by simp); simp at this
 | x :: L, y :: M, h1, h2, h => by
   have a1 := List.pairwise_cons.1 h1
   have a2 := List.pairwise_cons.1 h2
   have hxy : x = y := by
     rcases List.mem_cons.1 ((h x).1 (by simp)) with e | e
     · exact e
     · rcases List.mem_cons.1 ((h y).2 (by simp)) with e' | e'
       · exact e'.symm
       · have b1 := a2.1 x e
         have b2 := a1.1 y e'
         rw [asym hw b2] at b1; cases b1
   subst hxy
   congr 1
   refine ss_ext hw a1.2 a2.2 fun z => ?_
   have hz := h z
   simp only [List.mem_cons] at hz
   constructor
   · intro hm
     rcases hz.1 (.inr hm) with rfl | h'
     · have := a1.1 z hm; rw [hw.irrefl] at this; cases this
     · exact h'
   · intro hm
     rcases hz.2 (.inr hm) with rfl | h'
     · have := a2.1 z hm; rw [hw.irrefl] at this; cases this
     · exact h'
/-- equal neighbours once -/
def compactL [DecidableEq α] : List α → List α
 | [] => []
 | [x] => [x]
 | x :: y :: l => if x = y then compactL (y :: l) else x :: compactL (y :: l)
theorem compactL_snoc [DecidableEq α] : ∀ (l : List α) (z y : α), compactL (l ++ [z] ++ [y]) = if y = z then compactL (l ++ [z]) else compactL (l ++ [z]) ++ [y]
 | [], z, y => by
   simp only [List.nil_append, List.cons_append, compactL]
   by_cases h : y = z
   · rw [if_pos h, if_pos h.symm, h]
   · rw [if_neg h, if_neg (fun e => h e.symm)]
 | [x], z, y => by
   have ih := compactL_snoc [] z y
   simp only [List.nil_append, List.cons_append, compactL] at ih ⊢
   rw [ih]
   by_cases h : y = z <;> by_cases h2 : x = z <;> simp [h, h2]
 | x :: x2 :: l, z, y => by
   have ih := compactL_snoc (x2 :: l) z y
   simp only [List.cons_append, compactL] at ih ⊢
   rw [ih]
   by_cases h : y = z <;> by_cases h2 : x = x2 <;> simp [h, h2]
theorem compactL_mem [DecidableEq α] : ∀ (l : List α) (x : α), x ∈ compactL l ↔ x ∈ l
 | [], x => by simp [compactL]
 | [y], x => by simp [compactL]
 | y :: z :: l, x => by
   rw [compactL]
   split
   · rename_i h; rw [compactL_mem (z :: l) x, h]; simp
   · rw [List.mem_cons, compactL_mem (z :: l) x, List.mem_cons]
     simp
theorem compactL_len [DecidableEq α] : ∀ (l : List α), (compactL l).length ≤ l.length
 | [] => by simp [compactL]
 | [y] => by simp [compactL]
 | y :: z :: l => by
   have := compactL_len (z :: l)
   rw [compactL]; split <;> simp only [List.length_cons] at * <;> omega
theorem compactL_ss [DecidableEq α] (hw : SWO lt) (ht : ∀ x y, lt x y = false → lt y x = false → x = y) : ∀ {l : List α}, l.Pairwise (fun x y => lt y x = false) → SS lt (compactL l)
 | [], _ => by simp [compactL, SS]
 | [y], _ => by simp [compactL, SS]
 | y :: z :: l, h => by
   have h1 := List.pairwise_cons.1 h
   have ih := compactL_ss hw ht h1.2
   rw [compactL]
   split
   · exact ih
   · rename_i hne
     refine List.pairwise_cons.2 ⟨fun x hx => ?_, ih⟩
     rw [compactL_mem] at hx
     have hyz : lt y z = true := by
       cases hq : lt y z with
       | true => rfl
       | false => exact absurd (ht y z hq (h1.1 z (by simp))) hne
     rcases List.mem_cons.1 hx with rfl | hx
     · exact hyz
     · have hzx := (List.pairwise_cons.1 h1.2).1 x hx
       cases hq : lt y x with
       | true => rfl
       | false =>
         have : y = x := ht y x hq (h1.1 x (by simp [hx]))
         subst this
         rw [hyz] at hzx; cases hzx
/-! two such lists merged -/
/-! an element put where it belongs -/
theorem ins_ss (hw : SWO lt) (ht : ∀ x y, lt x y = false → lt y x = false → x = y) {L : List α} (h : SS lt L) {y : α} (hy : y ∉ L) {at_ : Nat} (h1 : ∀ i, i < at_ → ∀ x, L[i]? = some x → lt x y = true) (h2 : ∀ x, L[at_]? = some x → lt x y = false) : SS lt (L.take at_ ++ [y] ++ L.drop at_) := by
 have hb : ∀ x ∈ L.take at_, lt x y = true := by
   intro x hx
   obtain ⟨i, hi, rfl⟩ := List.getElem_of_mem hx
   have hi' : i < at_ ∧ i < L.length := by rw [List.length_take] at hi; omega
   refine h1 i hi'.1 _ ?_
   rw [List.getElem_take]; exact List.getElem?_eq_getElem hi'.2
 have ha : ∀ x ∈ L.drop at_, lt y x = true := by
   intro x hx
   cases hd : L.drop at_ with
   | nil => rw [hd] at hx; simp at hx
   | cons z D =>
     have hz : L[at_]? = some z := by
       have := congrArg (fun l => l[0]?) hd
       simpa using this
     have hzy : lt y z = true := by
       cases hq : lt y z with
       | true => rfl
       | false => exact absurd (by rw [ht z y (h2 z hz) hq] at hz; exact List.mem_of_getElem? hz) hy
     rw [hd] at hx
     rcases List.mem_cons.1 hx with rfl | hx
     · exact hzy
     · have hs : SS lt (L.drop at_) := h.sublist (List.drop_sublist _ _)
       rw [hd] at hs
       exact hw.trans _ _ _ hzy ((List.pairwise_cons.1 hs).1 x hx)
 have hA : SS lt (L.take at_) := h.sublist (List.take_sublist _ _)
 have hD : SS lt (L.drop at_) := h.sublist (List.drop_sublist _ _)
 unfold SS
 rw [List.append_assoc, List.pairwise_append]
 refine ⟨hA, List.pairwise_cons.2 ⟨ha, hD⟩, ?_⟩
 intro x hx z hz
 rcases List.mem_cons.1 hz with rfl | hz
 · exact hb x hx
 · exact hw.trans _ _ _ (hb x hx) (ha z hz)
theorem ins_mem {L : List α} {y x : α} {at_ : Nat} : x ∈ L.take at_ ++ [y] ++ L.drop at_ ↔ x = y ∨ x ∈ L := by
 conv => rhs; rw [← List.take_append_drop at_ L]
 simp only [List.mem_append, List.mem_singleton]
 constructor
 · rintro ((h | h) | h)
   · exact .inr (.inl h)
   · exact .inl h
   · exact .inr (.inr h)
 · rintro (h | h | h)
   · exact .inl (.inr h)
   · exact .inl (.inl h)
   · exact .inr h
end
end Go.Eng
namespace Go.Eng
section
variable {α : Type} [DecidableEq α] {L M : List α}
theorem compactL_short (h : L.length < 2) : compactL L = L := by
 match L, h with
 | [], _ => rfl
 | [x], _ => rfl
theorem compactL_at {i : Nat} {y z : α} (hi : 1 ≤ i) (hy : L[i]? = some y) (hz : L[i - 1]? = some z) : compactL (L.take (i + 1)) = if y = z then compactL (L.take i) else compactL (L.take i) ++ [y] := by
 have e : L.take i = L.take (i - 1) ++ [z] := by
   have := take_snoc hz
   rwa [show i - 1 + 1 = i by omega] at this
 rw [take_snoc hy, e]
 exact compactL_snoc _ _ _
omit [DecidableEq α] in
theorem drop_get {q j : Nat} (h : M.drop q = L.drop q) (hj : q ≤ j) : M[j]? = L[j]? := by
 have := congrArg (fun l => l[j - q]?) h
 simpa [show q + (j - q) = j by omega] using this
end
end Go.Eng
namespace Go.Eng
section
variable {α : Type}
end
end Go.Eng
namespace Go.Eng
section
variable {K : Kn} {Hs : List Hl} {α : Type} {enc : α → List Value} {sz : Nat} {ad : Option Addr} {m c : Nat} {L : List α}
theorem Rd.preO [r : Rd enc sz K Hs (.slice ad m c) L] {j : Nat} (hj : j ≤ L.length) : Rd enc sz K Hs (.slice ad j c) (L.take j) := by
 have hl := r.len
 have hsl := r.sl
 have hlen : (L.take j).length = j := by rw [List.length_take]; omega
 obtain ⟨ad', cap', he, h1, h2, h3⟩ := r.ex
 refine ⟨ad, c, by rw [hlen], by omega, fun y hy => h2 y (List.mem_of_mem_take hy), fun w hs => ?_⟩
 have h := hsl w hs
 rw [hlen]
 refine ⟨hlen, fun y hy => h.size y (List.mem_of_mem_take hy), fun hne => ?_⟩
 obtain ⟨b, off, e, hat⟩ := h.at_ (by intro e; rw [e] at hne; simp at hne)
 refine ⟨b, off, e, fun i v hv => hat i v ?_⟩
 have : L.flatMap enc = (L.take j).flatMap enc ++ (L.drop j).flatMap enc := by rw [← List.flatMap_append, List.take_append_drop]
 rw [this, List.getElem?_append_left (List.getElem?_eq_some_iff.1 hv).1]; exact hv
theorem Rd.sufO [r : Rd enc sz K Hs (.slice ad m c) L] {j : Nat} (hj : j ≤ L.length) : Rd enc sz K Hs (.slice (subAd ad c j sz) (m - j) (c - j)) (L.drop j) := by
 have hl := r.len
 have hsl := r.sl
 have hlen : (L.drop j).length = m - j := by rw [List.length_drop]; omega
 obtain ⟨ad', cap', he, h1, h2, h3⟩ := r.ex
 refine ⟨subAd ad c j sz, c - j, by rw [hlen], by omega, fun y hy => h2 y (List.mem_of_mem_drop hy), fun w hs => ?_⟩
 rw [hlen]
 exact (hsl w hs).tail hl.2 (by omega)
end
end Go.Eng
