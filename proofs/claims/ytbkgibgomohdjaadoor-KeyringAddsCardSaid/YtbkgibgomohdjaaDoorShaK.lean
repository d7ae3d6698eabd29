/-
  The identities of the few keys that occur differ.
-/
import Derived.Test.YtbkgibgomohdjaaDoorShaF
namespace Go.Proofs.YtbkgibgomohdjaaDoor
open Go.Eng Go.RowKit Go.Sort
/-- the keys that a statement makes: height, and the byte of the root -/
def famR (k : Nat) : Vec 16 := ⟨UInt8.ofNat k :: 7 :: UInt8.ofNat k :: List.replicate 13 0, rfl⟩
def famP (h k : Nat) : PK := ⟨h, famR k⟩
def blkOf (h k : Nat) : List Nat := h :: k :: 7 :: k :: (List.replicate 13 0 ++ (128 :: List.replicate 38 0) ++ [0, 0, 0, 0, 0, 0, 0, 136])
def famL : List (Nat × Nat) := [1, 2, 3, 8].flatMap fun h => (List.range 8).map fun k => (h, k)
def noDupB : List Nat → Bool
  | [] => true
  | x :: l => (l.all fun y => !(Nat.beq x y)) && noDupB l
theorem noDupB_of : ∀ {l : List Nat}, noDupB l = true → l.Nodup
  | [], _ => by simp
  | x :: l, h => by
    rw [noDupB, Bool.and_eq_true, List.all_eq_true] at h
    rw [List.nodup_cons]
    refine ⟨fun hx => ?_, noDupB_of h.2⟩
    have := h.1 x hx
    rw [Nat.beq_refl] at this; cases this
/-- reckon all of a list first -/
def fcL : List Nat → (List Nat → Bool) → Bool
  | [], k => k []
  | x :: l, k => fc x fun y => fcL l fun l' => k (y :: l')
theorem fcL_eq : ∀ (l : List Nat) (k : List Nat → Bool), fcL l k = k l
  | [], _ => rfl
  | x :: l, k => by rw [fcL, fc_eq, fcL_eq l]
theorem fam_reckon : fcL (famL.map fun q => firstN (blkOf q.1 q.2)) noDupB = true := by kernel_rfl
theorem known_reckon : Nat.beq (firstN (blkOf 1 1)) 788219313 = true := by kernel_rfl
theorem fam_nodup : (famL.map fun q => firstN (blkOf q.1 q.2)).Nodup := noDupB_of ((fcL_eq _ noDupB).symm.trans fam_reckon)
theorem mem_famL {h k : Nat} (hh : h = 1 ∨ h = 2 ∨ h = 3 ∨ h = 8) (hk : k < 8) : (h, k) ∈ famL := by
  rw [famL, List.mem_flatMap]
  exact ⟨h, by simpa using hh, List.mem_map.2 ⟨k, List.mem_range.2 hk, rfl⟩⟩
theorem blkOf_eq {h k : Nat} (hh : h < 256) (hk : k < 8) : blkOf h k = (pad17 (hbyte (famP h k).h :: (famP h k).r.1)).map UInt8.toNat := by
  have e1 : (hbyte (famP h k).h).toNat = h := by
    show (UInt8.ofNat (((h : Int) % 256).toNat)).toNat = h
    rw [UInt8.toNat_ofNat']; omega
  have e2 : (UInt8.ofNat k).toNat = k := by rw [UInt8.toNat_ofNat']; omega
  have e3 : (pad17 (hbyte (famP h k).h :: (famP h k).r.1)) = hbyte (famP h k).h :: UInt8.ofNat k :: 7 :: UInt8.ofNat k :: (List.replicate 13 0 ++ (128 :: List.replicate 38 0) ++ [0, 0, 0, 0, 0, 0, 0, 136]) := by
    simp [pad17, famP, famR]
  rw [e3, List.map_cons, List.map_cons, List.map_cons, List.map_cons, e1, e2]
  unfold blkOf
  congr 4
theorem nodup_map_inj {α β : Type} {f : α → β} : ∀ {l : List α}, (l.map f).Nodup → ∀ x ∈ l, ∀ y ∈ l, f x = f y → x = y
  | [], _, x, hx, _, _, _ => by simp at hx
  | z :: l, h, x, hx, y, hy, e => by
    rw [List.map_cons, List.nodup_cons] at h
    rcases List.mem_cons.1 hx with rfl | hx
    · rcases List.mem_cons.1 hy with rfl | hy
      · rfl
      · exact absurd (List.mem_map.2 ⟨y, hy, e.symm⟩) h.1
    · rcases List.mem_cons.1 hy with rfl | hy
      · exact absurd (show f y ∈ l.map f from List.mem_map.2 ⟨x, by assumption, e⟩) h.1
      · exact nodup_map_inj h.2 x hx y hy e
def isFam (p : PK) : Prop := ∃ h k : Nat, (h = 1 ∨ h = 2 ∨ h = 3 ∨ h = 8) ∧ k < 8 ∧ p = famP h k
theorem ofP_inj {p q : PK} (hp : isFam p) (hq : isFam q) (e : ofP p = ofP q) : p = q := by
  obtain ⟨h, k, hh, hk, rfl⟩ := hp
  obtain ⟨h', k', hh', hk', rfl⟩ := hq
  have e1 := half17_word (congrArg Subtype.val e)
  have e2 : firstN (blkOf h k) = firstN (blkOf h' k') := by
    rw [blkOf_eq (by omega) hk, blkOf_eq (by omega) hk', firstN_eq, firstN_eq, e1]
  have := nodup_map_inj fam_nodup (h, k) (mem_famL hh hk) (h', k') (mem_famL hh' hk') e2
  simp at this
  rw [this.1, this.2]
end Go.Proofs.YtbkgibgomohdjaaDoor
