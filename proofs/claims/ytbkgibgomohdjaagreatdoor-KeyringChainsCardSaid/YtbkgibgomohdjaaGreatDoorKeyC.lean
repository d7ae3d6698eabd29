/-
 Chapter 19: keys, roll-overs, keys of chains, slots and moves as cells.
-/
import Derived.Test.YtbkgibgomohdjaaGreatDoorMove
import Derived.Test.YtbkgibgomohdjaaGreatDoorMapOps
import Derived.Test.YtbkgibgomohdjaaGreatDoorByt
namespace Go.Proofs.YtbkgibgomohdjaaGreatDoor
open Go.Eng Go.RowKit Go.Sort
def encP (p : PK) : List Value := [.int .i64 p.h] ++ p.r.1.map ub
def encT (s : Vec 16 × Int) : List Value := s.1.1.map ub ++ [.int .i64 s.2]
def encO (r : RO) : List Value := r.id.1.map ub ++ (r.au.1.map ub ++ ([.int .i64 r.n] ++ (encP r.pu ++ ([.int .i64 r.leaf] ++ encP r.nw))))
def encK (k : KY) : List Value := [.int .i64 k.n] ++ (encP k.pu ++ ([.int .i64 k.lim] ++ k.nx.1.map ub))
def encMv (m : Mv) : List Value := [ub m.first, ub m.number, ub m.pub, ub m.new, ub m.leaf, ub m.id, ub m.spoil]
theorem encP_len (p : PK) : (encP p).length = 17 := by simp [encP, p.r.2]
theorem encT_len (s : Vec 16 × Int) : (encT s).length = 17 := by simp [encT, s.1.2]
theorem encO_len (r : RO) : (encO r).length = 84 := by simp [encO, r.id.2, r.au.2, encP_len]
theorem encK_len (k : KY) : (encK k).length = 51 := by simp [encK, k.nx.2, encP_len]
theorem encP_one (p : PK) : ∀ u ∈ encP p, u.oneCell' = true := fun u hu => by
 simp only [encP, List.mem_append, List.mem_singleton] at hu
 rcases hu with rfl | hu
 · rfl
 · exact ub_all _ u hu
instance : Enc encP 17 := ⟨encP_len, encP_one⟩
instance : Enc encT 17 := ⟨encT_len, fun s u hu => by
 simp only [encT, List.mem_append, List.mem_singleton] at hu
 rcases hu with hu | rfl
 · exact ub_all _ u hu
 · rfl⟩
instance : Enc encO 84 := ⟨encO_len, fun r u hu => by
 simp only [encO, List.mem_append, List.mem_singleton] at hu
 rcases hu with hu | hu | rfl | hu | rfl | hu
 · exact ub_all _ u hu
 · exact ub_all _ u hu
 · rfl
 · exact encP_one _ u hu
 · rfl
 · exact encP_one _ u hu⟩
instance : Enc encK 51 := ⟨encK_len, fun r u hu => by
 simp only [encK, List.mem_append, List.mem_singleton] at hu
 rcases hu with rfl | hu | rfl | hu
 · rfl
 · exact encP_one _ u hu
 · rfl
 · exact ub_all _ u hu⟩
instance : Enc encMv 7 := ⟨fun _ => rfl, fun m u hu => by simp [encMv] at hu; rcases hu with rfl | rfl | rfl | rfl | rfl | rfl | rfl <;> rfl⟩
instance {p : PK} : CellOf (encP p) 0 (.int .i64 p.h) := ⟨rfl⟩
instance {p : PK} : PartOf (encP p) 1 16 (p.r.1.map ub) := PartOf.mk' (c1 := [.int .i64 p.h]) (c3 := []) (by simp [encP]) rfl (encV_len _)
instance {s : Vec 16 × Int} : PartOf (encT s) 0 16 (s.1.1.map ub) := PartOf.mk' (c1 := []) rfl rfl (encV_len _)
instance {s : Vec 16 × Int} : CellOf (encT s) 16 (.int .i64 s.2) := ⟨by simp [encT, s.1.2, List.getElem?_append]⟩
instance {r : RO} : PartOf (encO r) 0 32 (r.id.1.map ub) := PartOf.mk' (c1 := []) rfl rfl (encV_len _)
instance {r : RO} : PartOf (encO r) 32 16 (r.au.1.map ub) := PartOf.mk' (c1 := r.id.1.map ub) rfl (encV_len _) (encV_len _)
instance {r : RO} : PartOf (encO r) 32 17 (encT (r.au, r.n)) := PartOf.mk' (c1 := r.id.1.map ub) (c3 := encP r.pu ++ ([.int .i64 r.leaf] ++ encP r.nw)) (by simp [encO, encT]) (encV_len _) (encT_len _)
instance {r : RO} : CellOf (encO r) 48 (.int .i64 r.n) := ⟨by simp [encO, r.id.2, r.au.2, List.getElem?_append]⟩
instance {r : RO} : PartOf (encO r) 49 17 (encP r.pu) := PartOf.mk' (c1 := r.id.1.map ub ++ (r.au.1.map ub ++ [.int .i64 r.n])) (c3 := [.int .i64 r.leaf] ++ encP r.nw) (by simp [encO]) (by simp [r.id.2, r.au.2]) (encP_len _)
instance {r : RO} : CellOf (encO r) 49 (.int .i64 r.pu.h) := ⟨by simp [encO, encP, r.id.2, r.au.2, List.getElem?_append]⟩
instance {r : RO} : CellOf (encO r) 66 (.int .i64 r.leaf) := ⟨by simp [encO, encP, r.id.2, r.au.2, r.pu.r.2, List.getElem?_append]⟩
instance {r : RO} : PartOf (encO r) 67 17 (encP r.nw) := PartOf.mk' (c1 := r.id.1.map ub ++ (r.au.1.map ub ++ ([.int .i64 r.n] ++ (encP r.pu ++ [.int .i64 r.leaf])))) (c3 := []) (by simp [encO]) (by simp [r.id.2, r.au.2, encP_len]) (encP_len _)
instance {k : KY} : CellOf (encK k) 0 (.int .i64 k.n) := ⟨rfl⟩
instance {k : KY} : PartOf (encK k) 1 17 (encP k.pu) := PartOf.mk' (c1 := [.int .i64 k.n]) rfl rfl (encP_len _)
instance {k : KY} : CellOf (encK k) 18 (.int .i64 k.lim) := ⟨by simp [encK, encP, k.pu.r.2, List.getElem?_append]⟩
instance {k : KY} : PartOf (encK k) 19 32 (k.nx.1.map ub) := PartOf.mk' (c1 := [.int .i64 k.n] ++ (encP k.pu ++ [.int .i64 k.lim])) (c3 := []) (by simp [encK]) (by simp [encP_len]) (encV_len _)
def lfP : List Leaf := [lInt .i64] ++ List.replicate 16 (lInt .u8)
theorem encP_fits (p : PK) : fitsAll lfP (encP p) = true := fitsAll_mk rfl (fitsN p.r.2)
theorem encP_eq {p q : PK} : cellsEq (encP p) (encP q) = decide (p = q) := by
 rw [encP, encP, cellsEq_app [.int .i64 p.h] _ [.int .i64 q.h] _ rfl, cellsEq_vec, Bool.eq_iff_iff]
 cases p; cases q; simp [cellsEq, cellEq]
theorem encT_eq {s t : Vec 16 × Int} : cellsEq (encT s) (encT t) = decide (s = t) := by
 rw [encT, encT, cellsEq_app _ _ _ _ (by simp [s.1.2, t.1.2]), cellsEq_vec, Bool.eq_iff_iff]
 obtain ⟨a, i⟩ := s; obtain ⟨b, j⟩ := t; simp [cellsEq, cellEq]
theorem encK_eq {r s : KY} : cellsEq (encK r) (encK s) = decide (r = s) := by
 rw [encK, encK, cellsEq_app [.int .i64 r.n] _ [.int .i64 s.n] _ rfl, cellsEq_app _ _ _ _ (by simp [encP_len]), encP_eq, cellsEq_app [.int .i64 r.lim] _ [.int .i64 s.lim] _ rfl, cellsEq_vec, Bool.eq_iff_iff]
 cases r; cases s; simp [cellsEq, cellEq]
end Go.Proofs.YtbkgibgomohdjaaGreatDoor
