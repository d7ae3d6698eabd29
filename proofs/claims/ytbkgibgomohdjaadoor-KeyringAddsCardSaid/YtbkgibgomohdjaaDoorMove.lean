/-
  The roll-overs that the statements of chapter 19 make, in plain terms.
-/
import Derived.Test.YtbkgibgomohdjaaDoorShaK
namespace Go.Proofs.YtbkgibgomohdjaaDoor
open Go.Eng Go.RowKit Go.Sort
structure Mv where
  first : UInt8
  number : UInt8
  pub : UInt8
  new : UInt8
  leaf : UInt8
  id : UInt8
  spoil : UInt8
deriving DecidableEq
def pubk (n : Nat) : PK := famP (1 + n % 3) (n % 8)
theorem pubk_fam (n : Nat) : isFam (pubk n) := ⟨1 + n % 3, n % 8, by omega, by omega, rfl⟩
theorem pubk_h (n : Nat) : (pubk n).h = ((1 + n % 3 : Nat) : Int) := rfl
def idn (k : Nat) : Vec 32 := ⟨List.replicate 31 0 ++ [UInt8.ofNat k], by simp⟩
theorem idn_inj {k j : Nat} (hk : k < 256) (hj : j < 256) (h : idn k = idn j) : k = j := by
  have h1 := congrArg Subtype.val h
  simp only [idn] at h1
  have h2 := List.append_inj_right h1 rfl
  have h3 := congrArg UInt8.toNat (List.head_eq_of_cons_eq h2)
  rw [UInt8.toNat_ofNat', UInt8.toNat_ofNat'] at h3
  omega
def pick4 (l : List Int) (k : UInt8) : Int := l.getD (k.toNat % 4) 0
def flip3 (a : Vec 16) : Vec 16 := ⟨a.1.set 3 ((a.1.getD 3 0) ^^^ 1), by rw [List.length_set]; exact a.2⟩
def rkN (m : Mv) : Int := ((m.number.toNat % 3 : Nat) : Int)
def rkP (m : Mv) : PK := if m.number.toNat % 3 = 0 then pubk m.first.toNat else pubk m.pub.toNat
def rkH (m : Mv) : Nat := if m.number.toNat % 3 = 0 then 1 + m.first.toNat % 3 else 1 + m.pub.toNat % 3
theorem rkP_h (m : Mv) : (rkP m).h = (rkH m : Nat) := by unfold rkP rkH; split <;> exact pubk_h _
/-- before anything is spoilt -/
def rkB (m : Mv) : RO := ⟨idn (m.id.toNat % 16), ofP (pubk m.first.toNat), rkN m, rkP m, ((m.leaf.toNat % 2 ^ rkH m : Nat) : Int), pubk m.new.toNat⟩
def rkR (m : Mv) : RO :=
  if m.spoil = 1 then { rkB m with n := pick4 [-1, 1000, 999, 1099511627776] m.leaf }
  else if m.spoil = 3 then { rkB m with pu := ⟨pick4 [0, 9, -1, 8] m.leaf, (rkB m).pu.r⟩ }
  else if m.spoil = 4 then { rkB m with nw := ⟨pick4 [0, 9, -1, 8] m.leaf, (rkB m).nw.r⟩ }
  else if m.spoil = 5 then { rkB m with nw := (rkB m).pu }
  else if m.spoil = 6 then { rkB m with leaf := pick4 [-1, 8, 2, 4] m.leaf }
  else if m.spoil = 7 then { rkB m with au := flip3 (rkB m).au }
  else rkB m
def rkK (m : Mv) : Int := if m.spoil = 0 then ((m.leaf.toNat % 7 : Nat) : Int) else 5
def rkT (m : Mv) : Int := if m.spoil = 1 then (rkR m).n + 1 else if m.spoil = 2 then ((m.leaf.toNat % 5 : Nat) : Int) else (rkB m).n + 1
theorem rkR_id (m : Mv) : (rkR m).id = idn (m.id.toNat % 16) := by
  unfold rkR
  repeat' split
  all_goals rfl
theorem pick4_mem {a b c d : Int} {k : UInt8} : pick4 [a, b, c, d] k = a ∨ pick4 [a, b, c, d] k = b ∨ pick4 [a, b, c, d] k = c ∨ pick4 [a, b, c, d] k = d := by
  unfold pick4
  have h : k.toNat % 4 < 4 := Nat.mod_lt _ (by decide)
  generalize k.toNat % 4 = j at h
  match j, h with
  | 0, _ => exact .inl rfl
  | 1, _ => exact .inr (.inl rfl)
  | 2, _ => exact .inr (.inr (.inl rfl))
  | 3, _ => exact .inr (.inr (.inr rfl))
theorem rkP_fam (m : Mv) : isFam (rkP m) := by unfold rkP; split <;> exact pubk_fam _
theorem rk_fam {m : Mv} (h : fine (rkR m).pu = true) : isFam (rkR m).pu := by
  have hb : isFam (rkB m).pu := rkP_fam m
  have h3 : fine (⟨pick4 [0, 9, -1, 8] m.leaf, (rkB m).pu.r⟩ : PK) = true → isFam (⟨pick4 [0, 9, -1, 8] m.leaf, (rkB m).pu.r⟩ : PK) := fun hf => by
    obtain ⟨h0, k, _, hk, he⟩ := hb
    rw [he]
    simp only [fine, Bool.and_eq_true, decide_eq_true_eq] at hf
    have : pick4 [0, 9, -1, 8] m.leaf = 8 := by
      rcases pick4_mem (a := 0) (b := 9) (c := -1) (d := 8) (k := m.leaf) with e | e | e | e <;> rw [e] at hf ⊢ <;> omega
    rw [this]
    exact ⟨8, k, by omega, hk, rfl⟩
  unfold rkR at h ⊢
  split
  · exact hb
  · split
    · rename_i h1 h2
      rw [if_neg h1, if_pos h2] at h
      exact h3 h
    · split
      · exact hb
      · split
        · exact hb
        · split
          · exact hb
          · split <;> exact hb
/-! lists that are built -/
def stepL (L : List RO) (m : Mv) : List RO := addL L (rkR m) (rkK m) (rkT m)
def bld (ms : List Mv) : List RO := ms.foldl stepL []
theorem bld_snoc (ms : List Mv) (m : Mv) : bld (ms ++ [m]) = stepL (bld ms) m := by rw [bld, List.foldl_append]; rfl
theorem bld_ind {P : List RO → Prop} (h0 : P []) (hs : ∀ L m, P L → P (stepL L m)) (ms : List Mv) : P (bld ms) := by
  have key : ∀ (ms : List Mv) (L : List RO), P L → P (ms.foldl stepL L) := by
    intro ms
    induction ms with
    | nil => intro L h; exact h
    | cons m ms ih => intro L h; exact ih _ (hs L m h)
  exact key ms [] h0
theorem bld_ok (ms : List Mv) : LOk (bld ms) := bld_ind LOk.nil (fun _ _ h => h.add _ _ _) ms
theorem step_fam {L : List RO} {m : Mv} (h : ∀ r ∈ L, isFam r.pu) : ∀ r ∈ stepL L m, isFam r.pu := by
  unfold stepL addL
  split
  · next e =>
    obtain ⟨_, _, hg, _⟩ := addE_zero e
    intro r hr
    rcases List.mem_append.1 hr with hr | hr
    · exact h r hr
    · simp at hr; subst hr; exact rk_fam hg.pu
  · exact h
theorem bld_fam (ms : List Mv) : ∀ r ∈ bld ms, isFam r.pu := bld_ind (P := fun L => ∀ r ∈ L, isFam r.pu) (by simp) (fun _ _ h => step_fam h) ms
theorem step_len (L : List RO) (m : Mv) : (stepL L m).length ≤ L.length + 1 ∧ L.length ≤ (stepL L m).length := by
  unfold stepL addL; split <;> simp
theorem bld_len (ms : List Mv) : (bld ms).length ≤ ms.length := by
  have key : ∀ (ms : List Mv) (L : List RO), (ms.foldl stepL L).length ≤ L.length + ms.length := by
    intro ms
    induction ms with
    | nil => intro L; simp
    | cons m ms ih => intro L; rw [List.foldl_cons, List.length_cons]; have := ih (stepL L m); have := (step_len L m).1; omega
  have := key ms []
  rw [bld]; simpa using this
/-- a move that may be added, whatever is there already -/
def okM (m : Mv) : Prop := addE [] (rkR m) (rkK m) (rkT m) = 0
theorem addE_split (L : List RO) (r : RO) (k t : Int) : addE L r k t = 0 ↔ addE [] r k t = 0 ∧ hasR L r.id = false := by
  unfold addE
  have hn : hasR [] r.id = false := rfl
  rw [hn]
  simp only [Bool.false_eq_true, if_false]
  repeat' split
  all_goals simp_all
theorem step_mem {L : List RO} {m : Mv} {r : RO} : r ∈ stepL L m ↔ r ∈ L ∨ (okM m ∧ hasR L (rkR m).id = false ∧ r = rkR m) := by
  unfold stepL addL okM
  split
  · next e =>
    rw [addE_split] at e
    rw [List.mem_append, List.mem_singleton]
    simp [e.1, e.2]
  · next e =>
    rw [addE_split] at e
    constructor
    · exact .inl
    · rintro (h | ⟨h1, h2, _⟩)
      · exact h
      · exact absurd ⟨h1, h2⟩ e
theorem bld_mem {ms : List Mv} (hd : ∀ m ∈ ms, ∀ m' ∈ ms, m.id.toNat % 16 = m'.id.toNat % 16 → m = m') {r : RO} : r ∈ bld ms ↔ ∃ m ∈ ms, okM m ∧ r = rkR m := by
  have key : ∀ k, k ≤ ms.length → ∀ r, r ∈ bld (ms.take k) ↔ ∃ m ∈ ms.take k, okM m ∧ r = rkR m := by
    intro k
    induction k with
    | zero => intro _ r; simp [bld]
    | succ k ih =>
      intro hk r
      have ih := ih (by omega)
      obtain ⟨m, hm⟩ : ∃ m, ms[k]? = some m := ⟨_, List.getElem?_eq_getElem (by omega)⟩
      have mm : m ∈ ms := List.mem_of_getElem? hm
      rw [take_snoc hm, bld_snoc, step_mem]
      constructor
      · rintro (h | ⟨h1, _, h3⟩)
        · obtain ⟨m', h1, h2⟩ := (ih r).1 h
          exact ⟨m', List.mem_append_left _ h1, h2⟩
        · exact ⟨m, by simp, h1, h3⟩
      · rintro ⟨m', h1, h2, h3⟩
        rcases List.mem_append.1 h1 with h1 | h1
        · exact .inl ((ih r).2 ⟨m', h1, h2, h3⟩)
        · simp at h1; subst h1
          cases hc : hasR (bld (ms.take k)) (rkR m').id with
          | false => exact .inr ⟨h2, rfl, h3⟩
          | true =>
            left
            obtain ⟨z, hz, hzi⟩ := List.mem_map.1 (hasR_iff.1 hc)
            obtain ⟨m2, h4, h5, h6⟩ := (ih z).1 hz
            rw [h6, rkR_id, rkR_id] at hzi
            have he := idn_inj (by omega) (by omega) hzi
            have : m2 = m' := hd m2 (List.mem_of_mem_take h4) m' mm he
            subst this
            rw [h3, ← h6]; exact hz
  have := key ms.length (Nat.le_refl _) r
  rwa [List.take_length] at this
theorem LOk.nodup {L : List RO} (h : LOk L) : L.Nodup := by
  have := h.nd
  rw [List.Nodup, List.pairwise_map] at this
  exact this.imp fun h e => h (by rw [e])
theorem same_len {L L' : List RO} (h : LOk L) (h' : LOk L') (hm : ∀ r, r ∈ L ↔ r ∈ L') : L.length = L'.length :=
  Nat.le_antisymm (nodup_len h.nodup fun x hx => (hm x).1 hx) (nodup_len h'.nodup fun x hx => (hm x).2 hx)
theorem ChR.same {L L' : List RO} {a : Vec 16} (hs : SameAt L L' a) {n : Int} {p : PK} {c : List KY} (h : ChR L a n p c) : ChR L' a n p c := by
  induction h with
  | last h => exact .last (nil_of_mem (hs.ends _ _) h)
  | cons b hc ih => exact .cons ⟨(hs.ends _ _ _).1 b.mem, fun y hy => b.min y ((hs.ends _ _ y).2 hy)⟩ ih
theorem ChA.same {L L' : List RO} {a : Vec 16} (hs : SameAt L L' a) {c : List KY} (h : ChA L a c) : ChA L' a c := by
  rcases h with ⟨h0, rfl⟩ | ⟨p, hp, hch⟩
  · exact .inl ⟨nil_of_mem hs.firsts h0, rfl⟩
  · exact .inr ⟨p, ⟨(hs.firsts p).1 hp.mem, fun y hy => hp.min y ((hs.firsts y).2 hy)⟩, hch.same hs⟩
/-- a roll-over of another author, or not signed with a key of the chain, does not change the chain -/
theorem outside {L : List RO} {m : Mv} {a : Vec 16} {c : List KY} (hL : LOk L) (hf : ∀ r ∈ L, isFam r.pu) (hc : ChA L a c) (hno : (rkR m).au = a → c ≠ [] ∧ ∀ k ∈ c, ¬ (k.n = (rkR m).n ∧ k.pu = (rkR m).pu)) : ChA (stepL L m) a c := by
  by_cases hau : (rkR m).au = a
  · obtain ⟨hne, hin⟩ := hno hau
    rcases hc with ⟨_, rfl⟩ | ⟨p, hp, hch⟩
    · exact absurd rfl hne
    · have hend : ∀ (n : Int) (q : PK), ((rkR m).n ≠ n ∨ (rkR m).pu ≠ q) → ∀ z, z ∈ ends (stepL L m) a n q ↔ z ∈ ends L a n q := fun n q hq z => by
        rw [mem_ends, mem_ends, step_mem]
        constructor
        · rintro ⟨h | ⟨_, _, rfl⟩, h2, h3, h4⟩
          · exact ⟨h, h2, h3, h4⟩
          · rcases hq with hq | hq
            · exact absurd h3 hq
            · exact absurd h4 hq
        · rintro ⟨h1, h2⟩; exact ⟨.inl h1, h2⟩
      have hR : ∀ {n : Int} {q : PK} {c : List KY}, ChR L a n q c → (∀ k ∈ c, ¬ (k.n = (rkR m).n ∧ k.pu = (rkR m).pu)) → ChR (stepL L m) a n q c := by
        intro n q c h
        induction h with
        | @last n q h =>
          intro hk
          have h0 := hk ⟨n, q, -1, kvz⟩ (by simp)
          simp only at h0
          have hq : (rkR m).n ≠ n ∨ (rkR m).pu ≠ q := by
            by_cases e : (rkR m).n = n
            · exact .inr fun e2 => h0 ⟨e.symm, e2.symm⟩
            · exact .inl e
          exact .last (nil_of_mem (fun z => (hend n q hq z).symm) h)
        | @cons n q e c b hc ih =>
          intro hk
          have h0 := hk ⟨n, q, e.leaf, e.id⟩ (by simp)
          simp only at h0
          have hq : (rkR m).n ≠ n ∨ (rkR m).pu ≠ q := by
            by_cases e : (rkR m).n = n
            · exact .inr fun e2 => h0 ⟨e.symm, e2.symm⟩
            · exact .inl e
          exact .cons ⟨(hend n q hq _).2 b.mem, fun y hy => b.min y ((hend n q hq y).1 hy)⟩ (ih fun k hk' => hk k (by simp [hk']))
      refine .inr ⟨p, ?_, hR hch hin⟩
      have hfst : ∀ z, z ∈ firsts (stepL L m) a ↔ z ∈ firsts L a := fun z => by
        rw [mem_firsts, mem_firsts]
        constructor
        · rintro ⟨r, h1, h2, h3, rfl⟩
          rcases step_mem.1 h1 with h1 | ⟨hok, _, rfl⟩
          · exact ⟨r, h1, h2, h3, rfl⟩
          · obtain ⟨_, _, hg, _⟩ := addE_zero hok
            obtain ⟨r0, g1, g2, g3, g4⟩ := mem_firsts.1 hp.mem
            have e1 := hg.au h3
            have e2 := (hL.good r0 g1).au g3
            have : (rkR m).pu = r0.pu := ofP_inj (rk_fam hg.pu) (hf r0 g1) (by rw [e1, e2, g2, h2])
            exact ⟨r0, g1, g2, g3, this.symm⟩
        · rintro ⟨r, h1, h2⟩; exact ⟨r, step_mem.2 (.inl h1), h2⟩
      exact ⟨(hfst p).2 hp.mem, fun y hy => hp.min y ((hfst y).1 hy)⟩
  · have hs : SameAt L (stepL L m) a := fun r hr => by
      rw [step_mem]
      constructor
      · exact .inl
      · rintro (h | ⟨_, _, rfl⟩)
        · exact h
        · exact absurd hr hau
    exact hc.same hs
end Go.Proofs.YtbkgibgomohdjaaDoor
