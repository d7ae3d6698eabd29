/-
 Keyrings in plain terms: roll-overs, chains, judgments.
-/
import Derived.Test.YtbkgibgomohdjaaGreatDoorSha
import Derived.Test.YtbkgibgomohdjaaGreatDoorOrd
import Derived.Test.YtbkgibgomohdjaaGreatDoorCmp
namespace Go.Proofs.YtbkgibgomohdjaaGreatDoor
open Go.Eng Go.RowKit Go.Sort

/-! an order by a number, then by bytes -/
def lt2 {m : Nat} (i : Int) (a : Vec m) (j : Int) (b : Vec m) : Bool := decide (orI (cmpI i j) (cmpL a.1 b.1) < 0)
theorem lt2_iff {m : Nat} {i j : Int} {a b : Vec m} : lt2 i a j b = true ↔ i < j ∨ (i = j ∧ ltV a b = true) := by
 unfold lt2 orI cmpI ltV
 rw [decide_eq_true_eq, decide_eq_true_eq]
 by_cases h1 : i < j
 · simp [h1]
 · by_cases h2 : j < i
   · simp [h1, h2]; omega
   · have : i = j := by omega
     simp [this]
theorem lt2_false {m : Nat} {i j : Int} {a b : Vec m} : lt2 i a j b = false ↔ j < i ∨ (i = j ∧ ltV a b = false) := by
 rw [Bool.eq_false_iff, Ne, lt2_iff]
 cases ltV a b <;> simp <;> omega
theorem lt2_tot {m : Nat} {i j : Int} {a b : Vec m} (h1 : lt2 i a j b = false) (h2 : lt2 j b i a = false) : i = j ∧ a = b := by
 rw [lt2_false] at h1 h2
 rcases h1 with h1 | ⟨h1, h1'⟩
 · rcases h2 with h2 | ⟨h2, _⟩ <;> omega
 · rcases h2 with h2 | ⟨_, h2'⟩
   · omega
   · exact ⟨h1, ltV_tot _ _ h1' h2'⟩
theorem lt2_swo {α : Type} {m : Nat} (f : α → Int) (g : α → Vec m) : SWO (fun x y => lt2 (f x) (g x) (f y) (g y)) := ⟨fun x => lt2_false.2 (.inr ⟨rfl, ltV_swo.irrefl _⟩), fun x y z h1 h2 => by
 rw [lt2_iff] at *
 rcases h1 with h1 | ⟨h1, h1'⟩
 · rcases h2 with h2 | ⟨h2, _⟩
   · exact .inl (by omega)
   · exact .inl (by omega)
 · rcases h2 with h2 | ⟨h2, h2'⟩
   · exact .inl (by omega)
   · exact .inr ⟨by omega, ltV_swo.trans _ _ _ h1' h2'⟩, fun x y z h1 h2 => by
 rw [lt2_false] at *
 rcases h1 with h1 | ⟨h1, h1'⟩
 · rcases h2 with h2 | ⟨h2, _⟩
   · exact .inl (by omega)
   · exact .inl (by omega)
 · rcases h2 with h2 | ⟨h2, h2'⟩
   · exact .inl (by omega)
   · exact .inr ⟨by omega, ltV_swo.ntrans _ _ _ h1' h2'⟩⟩

/-! what a keyring is made of -/
structure PK where
 h : Int
 r : Vec 16
deriving DecidableEq
structure RO where
 id : Vec 32
 au : Vec 16
 n : Int
 pu : PK
 leaf : Int
 nw : PK
deriving DecidableEq
structure KY where
 n : Int
 pu : PK
 lim : Int
 nx : Vec 32
deriving DecidableEq
def kvz : Vec 32 := ⟨List.replicate 32 0, rfl⟩
def kvz16 : Vec 16 := ⟨List.replicate 16 0, rfl⟩
def ltP (a b : PK) : Bool := lt2 a.h a.r b.h b.r
def ltO (a b : RO) : Bool := lt2 a.leaf a.id b.leaf b.id
theorem ltP_swo : SWO ltP := lt2_swo PK.h PK.r
theorem ltO_swo : SWO ltO := lt2_swo RO.leaf RO.id
theorem ltP_tot {a b : PK} (h1 : ltP a b = false) (h2 : ltP b a = false) : a = b := by
 obtain ⟨h, g⟩ := lt2_tot h1 h2
 cases a; cases b; simp at h g; subst h; subst g; rfl
theorem ltO_tot {a b : RO} (h1 : ltO a b = false) (h2 : ltO b a = false) : a.id = b.id := (lt2_tot h1 h2).2
structure Least {α : Type} (lt : α → α → Bool) (S : List α) (x : α) : Prop where
 mem : x ∈ S
 min : ∀ y ∈ S, lt y x = false
theorem Least.uniqP {S S' : List PK} {x y : PK} (h : Least ltP S x) (h' : Least ltP S' y) (he : ∀ z, z ∈ S ↔ z ∈ S') : x = y :=
 ltP_tot (h'.min x ((he x).1 h.mem)) (h.min y ((he y).2 h'.mem))
def IdInj (L : List RO) : Prop := ∀ x ∈ L, ∀ y ∈ L, x.id = y.id → x = y
theorem IdInj.of_nodup {L : List RO} (h : (L.map RO.id).Nodup) : IdInj L := fun x hx y hy e => by
 rw [List.Nodup, List.pairwise_map] at h
 obtain ⟨i, hi, rfl⟩ := List.getElem_of_mem hx
 obtain ⟨j, hj, rfl⟩ := List.getElem_of_mem hy
 rcases Nat.lt_trichotomy i j with h1 | h1 | h1
 · exact absurd e (List.pairwise_iff_getElem.1 h i j hi hj h1)
 · subst h1; rfl
 · exact absurd e.symm (List.pairwise_iff_getElem.1 h j i hj hi h1)
theorem Least.uniqO {L S S' : List RO} (hn : IdInj L) (hs : ∀ z ∈ S, z ∈ L) {x y : RO} (h : Least ltO S x) (h' : Least ltO S' y) (he : ∀ z, z ∈ S ↔ z ∈ S') : x = y :=
 hn x (hs x h.mem) y (hs y ((he y).2 h'.mem)) (ltO_tot (h'.min x ((he x).1 h.mem)) (h.min y ((he y).2 h'.mem)))
/-- the least element, walked from the front -/
theorem Least.snoc {α : Type} {lt : α → α → Bool} (hw : SWO lt) {S : List α} {x y : α} (h : Least lt S x) : Least lt (S ++ [y]) (if lt y x then y else x) := by
 cases hc : lt y x with
 | true =>
   refine ⟨by simp, fun z hz => ?_⟩
   simp only [if_true]
   rcases List.mem_append.1 hz with hz | hz
   · cases hzy : lt z y with
     | false => rfl
     | true => have := hw.trans _ _ _ hzy hc; rw [h.min z hz] at this; cases this
   · simp at hz; subst hz; exact hw.irrefl _
 | false =>
   refine ⟨by simp [h.mem], fun z hz => ?_⟩
   simp only [Bool.false_eq_true, if_false]
   rcases List.mem_append.1 hz with hz | hz
   · exact h.min z hz
   · simp at hz; subst hz; exact hc
theorem Least.one {α : Type} {lt : α → α → Bool} (hw : SWO lt) (x : α) : Least lt [x] x := ⟨by simp, fun y hy => by simp at hy; subst hy; exact hw.irrefl _⟩
def atS (a : Vec 16) (n : Int) (r : RO) : Bool := decide (r.au = a) && decide (r.n = n)
def slotL (L : List RO) (a : Vec 16) (n : Int) : List RO := L.filter (atS a n)
def firsts (L : List RO) (a : Vec 16) : List PK := (slotL L a 0).map RO.pu
def ends (L : List RO) (a : Vec 16) (n : Int) (p : PK) : List RO := (slotL L a n).filter fun r => decide (r.pu = p)
theorem mem_slotL {L : List RO} {a : Vec 16} {n : Int} {r : RO} : r ∈ slotL L a n ↔ r ∈ L ∧ r.au = a ∧ r.n = n := by simp [slotL, atS]
theorem mem_ends {L : List RO} {a : Vec 16} {n : Int} {p : PK} {r : RO} : r ∈ ends L a n p ↔ r ∈ L ∧ r.au = a ∧ r.n = n ∧ r.pu = p := by
 rw [ends, List.mem_filter, mem_slotL, decide_eq_true_eq]; simp [and_assoc]
theorem mem_firsts {L : List RO} {a : Vec 16} {p : PK} : p ∈ firsts L a ↔ ∃ r ∈ L, r.au = a ∧ r.n = 0 ∧ r.pu = p := by
 rw [firsts, List.mem_map]
 constructor
 · rintro ⟨r, hr, rfl⟩; obtain ⟨h1, h2, h3⟩ := mem_slotL.1 hr; exact ⟨r, h1, h2, h3, rfl⟩
 · rintro ⟨r, h1, h2, h3, rfl⟩; exact ⟨r, mem_slotL.2 ⟨h1, h2, h3⟩, rfl⟩
inductive ChR (L : List RO) (a : Vec 16) : Int → PK → List KY → Prop
 | last {n : Int} {p : PK} : ends L a n p = [] → ChR L a n p [⟨n, p, -1, kvz⟩]
 | cons {n : Int} {p : PK} {e : RO} {c : List KY} : Least ltO (ends L a n p) e → ChR L a (n + 1) e.nw c → ChR L a n p (⟨n, p, e.leaf, e.id⟩ :: c)
def ChA (L : List RO) (a : Vec 16) (c : List KY) : Prop := (firsts L a = [] ∧ c = []) ∨ ∃ p, Least ltP (firsts L a) p ∧ ChR L a 0 p c
theorem nil_of_mem {α : Type} {S S' : List α} (he : ∀ z, z ∈ S ↔ z ∈ S') (h : S = []) : S' = [] := by
 cases S' with
 | nil => rfl
 | cons y l => have := (he y).2 (by simp); rw [h] at this; simp at this
/-- two lists that agree on an author's roll-overs give this author the same chain -/
def SameAt (L L' : List RO) (a : Vec 16) : Prop := ∀ r, r.au = a → (r ∈ L ↔ r ∈ L')
theorem SameAt.ends {L L' : List RO} {a : Vec 16} (h : SameAt L L' a) (n : Int) (p : PK) (r : RO) : r ∈ Proofs.YtbkgibgomohdjaaGreatDoor.ends L a n p ↔ r ∈ Proofs.YtbkgibgomohdjaaGreatDoor.ends L' a n p := by
 rw [mem_ends, mem_ends]
 constructor
 · rintro ⟨h1, h2, h3⟩; exact ⟨(h r h2).1 h1, h2, h3⟩
 · rintro ⟨h1, h2, h3⟩; exact ⟨(h r h2).2 h1, h2, h3⟩
theorem SameAt.firsts {L L' : List RO} {a : Vec 16} (h : SameAt L L' a) (p : PK) : p ∈ Proofs.YtbkgibgomohdjaaGreatDoor.firsts L a ↔ p ∈ Proofs.YtbkgibgomohdjaaGreatDoor.firsts L' a := by
 rw [mem_firsts, mem_firsts]
 constructor
 · rintro ⟨r, h1, h2, h3⟩; exact ⟨r, (h r h2).1 h1, h2, h3⟩
 · rintro ⟨r, h1, h2, h3⟩; exact ⟨r, (h r h2).2 h1, h2, h3⟩
theorem ChR.det {L L' : List RO} {a : Vec 16} (hn : IdInj L) (hs : SameAt L L' a) {n : Int} {p : PK} {c c' : List KY} (h : ChR L a n p c) (h' : ChR L' a n p c') : c = c' := by
 induction h generalizing c' with
 | last h =>
   cases h' with
   | last h' => rfl
   | cons b hc => have := nil_of_mem (hs.ends _ _) h; have hm := b.mem; rw [this] at hm; simp at hm
 | cons b hc ih =>
   cases h' with
   | last h' => have := nil_of_mem (fun z => (hs.ends _ _ z).symm) h'; have hm := b.mem; rw [this] at hm; simp at hm
   | cons b' hc' =>
     have := Least.uniqO hn (fun z hz => (mem_ends.1 hz).1) b b' (hs.ends _ _)
     subst this
     rw [ih hc']
theorem ChA.det {L L' : List RO} {a : Vec 16} (hn : IdInj L) (hs : SameAt L L' a) {c c' : List KY} (h : ChA L a c) (h' : ChA L' a c') : c = c' := by
 rcases h with ⟨h0, rfl⟩ | ⟨p, hp, hc⟩
 · rcases h' with ⟨_, rfl⟩ | ⟨p', hp', _⟩
   · rfl
   · have := nil_of_mem hs.firsts h0; have hm := hp'.mem; rw [this] at hm; simp at hm
 · rcases h' with ⟨h0, rfl⟩ | ⟨p', hp', hc'⟩
   · have := nil_of_mem (fun z => (hs.firsts z).symm) h0; have hm := hp.mem; rw [this] at hm; simp at hm
   · obtain rfl := Least.uniqP hp hp' hs.firsts
     exact hc.det hn hs hc'
/-- how many roll-overs are of a number or a later one -/
def cntN (L : List RO) (n : Int) : Nat := (L.filter fun r => decide (n ≤ r.n)).length
theorem cntN_le (L : List RO) (n : Int) : cntN L n ≤ L.length := List.length_filter_le _ _
theorem cntN_lt {L : List RO} {n : Int} {r : RO} (hr : r ∈ L) (h : r.n = n) : cntN L (n + 1) < cntN L n := by
 unfold cntN
 induction L with
 | nil => simp at hr
 | cons y l ih =>
   have hle : (l.filter fun r => decide (n + 1 ≤ r.n)).length ≤ (l.filter fun r => decide (n ≤ r.n)).length := by
     have : ((l.filter fun r => decide (n ≤ r.n)).filter fun r => decide (n + 1 ≤ r.n)) = l.filter fun r => decide (n + 1 ≤ r.n) := by
       rw [List.filter_filter]
       apply List.filter_congr
       intro x _
       rw [Bool.eq_iff_iff]; simp; omega
     rw [← this]; exact List.length_filter_le _ _
   rcases List.mem_cons.1 hr with rfl | hr
   · rw [List.filter_cons_of_neg (by simp; omega), List.filter_cons_of_pos (by simp; omega), List.length_cons]; omega
   · have := ih hr
     by_cases h1 : n + 1 ≤ y.n
     · rw [List.filter_cons_of_pos (by simpa using h1), List.filter_cons_of_pos (by simp; omega), List.length_cons, List.length_cons]; omega
     · rw [List.filter_cons_of_neg (by simpa using h1)]
       by_cases h2 : n ≤ y.n
       · rw [List.filter_cons_of_pos (by simpa using h2), List.length_cons]; omega
       · rw [List.filter_cons_of_neg (by simpa using h2)]; omega
theorem ChR.len {L : List RO} {a : Vec 16} {n : Int} {p : PK} {c : List KY} (h : ChR L a n p c) : c.length ≤ cntN L n + 1 := by
 induction h with
 | last h => simp
 | cons b hc ih =>
   obtain ⟨h1, _, h2, _⟩ := mem_ends.1 b.mem
   have := cntN_lt h1 h2
   rw [List.length_cons]; omega
theorem ChA.len {L : List RO} {a : Vec 16} {c : List KY} (h : ChA L a c) : c.length ≤ L.length + 1 := by
 rcases h with ⟨_, rfl⟩ | ⟨p, _, hc⟩
 · simp
 · have := hc.len; have := cntN_le L 0; omega
/-- every key of a chain that is ended names a roll-over of the list -/
theorem ChR.lim {L : List RO} {a : Vec 16} {n : Int} {p : PK} {c : List KY} (h : ChR L a n p c) : ∀ k ∈ c, k.lim = -1 ∧ k.nx = kvz ∧ ends L a k.n k.pu = [] ∨ ∃ e ∈ L, e.au = a ∧ e.n = k.n ∧ e.pu = k.pu ∧ e.leaf = k.lim ∧ e.id = k.nx ∧ Least ltO (ends L a k.n k.pu) e := by
 induction h with
 | last h => intro k hk; simp at hk; subst hk; exact .inl ⟨rfl, rfl, h⟩
 | cons b hc ih =>
   intro k hk
   rcases List.mem_cons.1 hk with rfl | hk
   · obtain ⟨h1, h2, h3, h4⟩ := mem_ends.1 b.mem
     exact .inr ⟨_, h1, h2, h3, h4, rfl, rfl, b⟩
   · exact ih k hk

/-! what may be added -/
def fine (p : PK) : Bool := decide (1 ≤ p.h) && decide (p.h ≤ 8)
def hbyte (h : Int) : UInt8 := UInt8.ofNat (h % 256).toNat
def ofP (p : PK) : Vec 16 := ⟨half17 (hbyte p.h :: p.r.1), by simp [half17]⟩
def hasR (L : List RO) (a : Vec 32) : Bool := L.any fun r => decide (r.id = a)
def keyBad (r : RO) : Bool := !fine r.pu || !fine r.nw || decide (r.pu = r.nw) || decide (r.leaf < 0) || decide ((2 : Int) ^ r.pu.h.toNat ≤ r.leaf)
def addE (L : List RO) (r : RO) (kind to : Int) : Int :=
 if kind ≠ 5 then 11 else if r.n < 0 ∨ 999 < r.n then 2 else if to ≠ r.n + 1 then 30 else if keyBad r = true then 18 else if r.n = 0 ∧ ofP r.pu ≠ r.au then 20 else if hasR L r.id = true then 7 else 0
def addL (L : List RO) (r : RO) (kind to : Int) : List RO := if addE L r kind to = 0 then L ++ [r] else L
/-- what is known of a roll-over that was added -/
structure Good (r : RO) : Prop where
 n0 : 0 ≤ r.n
 n1 : r.n ≤ 999
 pu : fine r.pu = true
 nw : fine r.nw = true
 ne : r.pu ≠ r.nw
 leaf : 0 ≤ r.leaf
 au : r.n = 0 → ofP r.pu = r.au
theorem addE_zero {L : List RO} {r : RO} {kind to : Int} (h : addE L r kind to = 0) : kind = 5 ∧ to = r.n + 1 ∧ Good r ∧ hasR L r.id = false := by
 unfold addE at h
 split at h; · simp at h
 next h1 =>
 split at h; · simp at h
 next h2 =>
 split at h; · simp at h
 next h3 =>
 split at h; · simp at h
 next h4 =>
 split at h; · simp at h
 next h5 =>
 split at h; · simp at h
 next h6 =>
 simp only [keyBad, Bool.or_eq_true, Bool.not_eq_true', decide_eq_true_eq, not_or, Bool.not_eq_false] at h4
 obtain ⟨⟨⟨⟨k1, k2⟩, k3⟩, k4⟩, k5⟩ := h4
 refine ⟨Decidable.not_not.1 h1, Decidable.not_not.1 h3, ⟨by omega, by omega, k1, k2, k3, by omega, fun e => ?_⟩, by simpa using h6⟩
 by_cases hh : ofP r.pu = r.au
 · exact hh
 · exact absurd ⟨e, hh⟩ h5
structure LOk (L : List RO) : Prop where
 nd : (L.map RO.id).Nodup
 good : ∀ r ∈ L, Good r
theorem LOk.nil : LOk [] := ⟨by simp, by simp⟩
theorem LOk.inj {L : List RO} (h : LOk L) : IdInj L := IdInj.of_nodup h.nd
theorem hasR_iff {L : List RO} {a : Vec 32} : hasR L a = true ↔ a ∈ L.map RO.id := by simp [hasR, List.mem_map]
theorem hasR_false {L : List RO} {a : Vec 32} : hasR L a = false ↔ a ∉ L.map RO.id := by rw [← hasR_iff]; simp
/-- judgments -/
def judge (c : List KY) (a : Vec 16) (n : Int) (p : PK) (leaf : Int) (id : Vec 32) : Int :=
 if 0 ≤ n ∧ n < c.length then
   match c[n.toNat]? with
   | none => 0
   | some k => if k.pu ≠ p then 2 else if k.lim ≠ -1 ∧ (k.lim < leaf ∨ (leaf = k.lim ∧ id ≠ k.nx)) then 3 else 0
 else if n ≠ 0 then 1 else if fine p = true ∧ ofP p = a then 0 else 2
end Go.Proofs.YtbkgibgomohdjaaGreatDoor
