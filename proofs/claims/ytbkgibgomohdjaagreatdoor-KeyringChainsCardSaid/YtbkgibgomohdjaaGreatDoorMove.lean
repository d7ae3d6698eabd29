/-
 The roll-overs that the statements of chapter 19 make, in plain terms.
-/
import Derived.Test.YtbkgibgomohdjaaGreatDoorShaK
namespace Go.Proofs.YtbkgibgomohdjaaGreatDoor
open Go.Eng Go.RowKit Go.Sort
structure Mv where
 first : UInt8
 number : UInt8
 pub : UInt8
 new : UInt8
 leaf : UInt8
 id : UInt8
 spoil : UInt8
deriving DecidableEq
def pubk (n : Nat) : PK := famP (1 + n % 3) (n % 8)
theorem pubk_h (n : Nat) : (pubk n).h = ((1 + n % 3 : Nat) : Int) := rfl
def idn (k : Nat) : Vec 32 := ⟨List.replicate 31 0 ++ [UInt8.ofNat k], by simp⟩
def pick4 (l : List Int) (k : UInt8) : Int := l.getD (k.toNat % 4) 0
def flip3 (a : Vec 16) : Vec 16 := ⟨a.1.set 3 ((a.1.getD 3 0) ^^^ 1), by rw [List.length_set]; exact a.2⟩
def rkN (m : Mv) : Int := ((m.number.toNat % 3 : Nat) : Int)
def rkP (m : Mv) : PK := if m.number.toNat % 3 = 0 then pubk m.first.toNat else pubk m.pub.toNat
def rkH (m : Mv) : Nat := if m.number.toNat % 3 = 0 then 1 + m.first.toNat % 3 else 1 + m.pub.toNat % 3
/-- before anything is spoilt -/
def rkB (m : Mv) : RO := ⟨idn (m.id.toNat % 16), ofP (pubk m.first.toNat), rkN m, rkP m, ((m.leaf.toNat % 2 ^ rkH m : Nat) : Int), pubk m.new.toNat⟩
def rkR (m : Mv) : RO :=
 if m.spoil = 1 then { rkB m with n := pick4 [-1, 1000, 999, 1099511627776] m.leaf }
 else if m.spoil = 3 then { rkB m with pu := ⟨pick4 [0, 9, -1, 8] m.leaf, (rkB m).pu.r⟩ }
 else if m.spoil = 4 then { rkB m with nw := ⟨pick4 [0, 9, -1, 8] m.leaf, (rkB m).nw.r⟩ }
 else if m.spoil = 5 then { rkB m with nw := (rkB m).pu }
 else if m.spoil = 6 then { rkB m with leaf := pick4 [-1, 8, 2, 4] m.leaf }
 else if m.spoil = 7 then { rkB m with au := flip3 (rkB m).au }
 else rkB m
def rkK (m : Mv) : Int := if m.spoil = 0 then ((m.leaf.toNat % 7 : Nat) : Int) else 5
def rkT (m : Mv) : Int := if m.spoil = 1 then (rkR m).n + 1 else if m.spoil = 2 then ((m.leaf.toNat % 5 : Nat) : Int) else (rkB m).n + 1
theorem pick4_mem {a b c d : Int} {k : UInt8} : pick4 [a, b, c, d] k = a ∨ pick4 [a, b, c, d] k = b ∨ pick4 [a, b, c, d] k = c ∨ pick4 [a, b, c, d] k = d := by
 unfold pick4
 have h : k.toNat % 4 < 4 := Nat.mod_lt _ (by decide)
 generalize k.toNat % 4 = j at h
 match j, h with
 | 0, _ => exact .inl rfl
 | 1, _ => exact .inr (.inl rfl)
 | 2, _ => exact .inr (.inr (.inl rfl))
 | 3, _ => exact .inr (.inr (.inr rfl))
/-! lists that are built -/
def stepL (L : List RO) (m : Mv) : List RO := addL L (rkR m) (rkK m) (rkT m)
def bld (ms : List Mv) : List RO := ms.foldl stepL []
theorem bld_snoc (ms : List Mv) (m : Mv) : bld (ms ++ [m]) = stepL (bld ms) m := by rw [bld, List.foldl_append]; rfl
theorem step_len (L : List RO) (m : Mv) : (stepL L m).length ≤ L.length + 1 ∧ L.length ≤ (stepL L m).length := by
 unfold stepL addL; split <;> simp
theorem bld_len (ms : List Mv) : (bld ms).length ≤ ms.length := by
 have key : ∀ (ms : List Mv) (L : List RO), (ms.foldl stepL L).length ≤ L.length + ms.length := by
   intro ms
   induction ms with
   | nil => intro L; simp
   | cons m ms ih => intro L; rw [List.foldl_cons, List.length_cons]; have := ih (stepL L m); have := (step_len L m).1; omega
 have := key ms []
 rw [bld]; simpa using this
theorem LOk.nodup {L : List RO} (h : LOk L) : L.Nodup := by
 have := h.nd
 rw [List.Nodup, List.pairwise_map] at this
 exact this.imp fun h e => h (by rw [e])
end Go.Proofs.YtbkgibgomohdjaaGreatDoor
