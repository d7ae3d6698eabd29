/-
  Chapter 19: the examples of the document.
-/
import Derived.Test.YtbkgibgomohdjaaDoorKrM
namespace Go.Proofs.YtbkgibgomohdjaaDoor
open Go.Eng Go.RowKit Go.Sort
variable {K : Kn} {Hs Rs : List Hl} {F : Hl} {w : World} {v : Value} {L : List RO} {p : Nat} {MK : MKn} {MR : MRo}
def ida (b : UInt8) : Vec 32 := ⟨b :: List.replicate 31 0, rfl⟩
def kA : Vec 16 := ofP (pubk 2)
def kr1 : RO := ⟨ida 1, kA, 0, pubk 2, 7, pubk 3⟩
def kr2 : RO := ⟨ida 2, kA, 0, pubk 2, 5, pubk 4⟩
def kc1 : List KY := [⟨0, pubk 2, 7, ida 1⟩, ⟨1, pubk 3, -1, kvz⟩]
def kc2 : List KY := [⟨0, pubk 2, 5, ida 2⟩, ⟨1, pubk 4, -1, kvz⟩]
theorem ke1 : addE [] kr1 5 1 = 0 := addE_0 rfl (by decide) rfl (by decide) (fun g => g.2 rfl) rfl
theorem ke2 : addE [kr1] kr2 5 1 = 0 := addE_0 rfl (by decide) rfl (by decide) (fun g => g.2 rfl) (by decide)
theorem kl1 : addL [] kr1 5 1 = [kr1] := by rw [addL, if_pos ke1]; rfl
theorem kl2 : addL [kr1] kr2 5 1 = [kr1, kr2] := by rw [addL, if_pos ke2]; rfl
theorem atS_kA (r : RO) (h : r.au = kA) (n : Int) : atS kA n r = decide (r.n = n) := by simp [atS, h]
theorem slot_kA (M : List RO) (h : ∀ r ∈ M, r.au = kA) (n : Int) : slotL M kA n = M.filter fun r => decide (r.n = n) := by
  unfold slotL
  exact List.filter_congr fun r hr => atS_kA r (h r hr) n
theorem kch1 : ChA [kr1] kA kc1 := by
  have hs : ∀ n, slotL [kr1] kA n = [kr1].filter fun r => decide (r.n = n) := slot_kA _ (by simp [kr1])
  refine .inr ⟨pubk 2, ?_, .cons (e := kr1) ?_ (.last ?_)⟩
  · rw [firsts, hs]; exact Least.one ltP_swo (pubk 2)
  · rw [ends, hs]; exact Least.one ltO_swo kr1
  · rw [ends, hs]; rfl
theorem kch2 : ChA [kr1, kr2] kA kc2 := by
  have hs : ∀ n, slotL [kr1, kr2] kA n = [kr1, kr2].filter fun r => decide (r.n = n) := slot_kA _ (by simp [kr1, kr2])
  refine .inr ⟨pubk 2, ?_, .cons (e := kr2) ?_ (.last ?_)⟩
  · rw [firsts, hs]; exact Least.snoc (y := pubk 2) ltP_swo (Least.one ltP_swo (pubk 2))
  · rw [ends, hs]; exact Least.snoc (y := kr2) ltO_swo (Least.one ltO_swo kr1)
  · rw [ends, hs]; rfl
theorem known_any [HasKc K] (hs : Sat K w Hs) : Ret Tryd.prog 11 #[] w fun v w' => v = .bool true ∧ Sat K w' Hs := by
  have q2 := encP_len (pubk 2)
  have q3 := encP_len (pubk 3)
  have q4 := encP_len (pubk 4)
  have qa := encV_len kA
  have qz := encV_len kvz
  have qa2 := kA.2
  have qi1 : ((ida 1).1.map ub).length = 32 := rfl
  refine Ret.enter (n := 138) (args := []) Tryd.func11 rfl rfl ?_
  refine C.keep [] trivial ?_
  refine C.seq ?_
  refine C.region ?_
  refine R.ev rfl (E.assign rfl) ?_
  refine R.done ?_
  refine X.keep [] trivial ?_
  refine X.next ?_
  refine C.seq ?_
  refine C.region ?_
  refine R.call ⟨_, _, Tryd.func23, rfl, by kernel_rfl⟩ rfl rfl (new_any hs) ?_
  rintro _ w1 ⟨p, F, rfl, hw, hs⟩
  refine R.ev rfl (E.assign rfl) ?_
  refine R.done ?_
  refine X.keep [(1, _)] ⟨rfl, trivial⟩ ?_
  refine X.next ?_
  refine C.seq ?_
  refine C.seq ?_
  refine C.region ?_
  refine R.ev rfl (E.move rfl) ?_
  refine R.ev rfl (E.eqlNilF rfl rfl Tryd.underlying25) ?_
  refine R.done ?_
  refine X.keep [(1, _), (14, _)] ⟨rfl, rfl, trivial⟩ ?_
  refine X.next ?_
  refine C.cfalse rfl ?_
  refine C.skip ?_
  refine X.next ?_
  refine C.seq ?_
  refine C.region ?_
  refine R.call ⟨_, _, Tryd.func14, rfl, by kernel_rfl⟩ rfl rfl (public_any 2 hs) ?_
  rintro _ w40 ⟨rfl, hs⟩
  refine R.call ⟨_, _, Tryd.func14, rfl, by kernel_rfl⟩ rfl rfl (public_any 3 hs) ?_
  rintro _ w41 ⟨rfl, hs⟩
  refine R.call ⟨_, _, Tryd.func14, rfl, by kernel_rfl⟩ rfl rfl (public_any 4 hs) ?_
  rintro _ w42 ⟨rfl, hs⟩
  refine R.sallocA hs Tryd.zr32 rfl ?_
  intro b2 w2 hs
  refine R.sallocA hs Tryd.zr32 rfl ?_
  intro b3 w3 hs
  refine R.sallocA hs Tryd.zr32 rfl ?_
  intro b4 w4 hs
  refine R.cstoreAll hs rfl rfl Tryd.sz32 (by rfl) (by rfl) (by exact Enc.one _) ?_
  intro w4_6 hs
  try simp only [List.set_cons_zero, List.set_cons_succ] at hs
  refine R.cstoreAll hs rfl rfl Tryd.sz32 (by rfl) (by rfl) (by exact Enc.one _) ?_
  intro w4_7 hs
  try simp only [List.set_cons_zero, List.set_cons_succ] at hs
  refine R.cstoreAll hs rfl rfl Tryd.sz32 (by rfl) (by rfl) (by exact Enc.one _) ?_
  intro w4_8 hs
  try simp only [List.set_cons_zero, List.set_cons_succ] at hs
  refine R.done ?_
  refine X.keep [(1, _), (2, _), (3, _), (4, _)] ⟨rfl, rfl, rfl, rfl, trivial⟩ ?_
  refine X.next ?_
  refine C.seq ?_
  refine C.region ?_
  refine R.ev rfl (E.loadRowC rfl Tryd.underlying32 rfl Tryd.sz32 (by exact ⟨hs.ldA, by rfl⟩)) ?_
  refine R.call ⟨_, _, Tryd.func13, rfl, by kernel_rfl⟩ rfl rfl (rOf_any (pubk 2) hs) ?_
  rintro _ w51 ⟨rfl, hs⟩
  have hs : Sat K w51 (row b4 32 (encP (pubk 4)) :: row b3 32 (encP (pubk 3)) :: row b2 32 (encP (pubk 2)) :: F :: Hs) := hs
  refine R.sallocA hs Tryd.zr29 rfl ?_
  intro b5 w5 hs
  refine R.cstoreAll hs rfl rfl Tryd.sz29 rfl qa (ub_all _) ?_
  intro w53 hs
  have hs : Sat K w53 (row b5 29 (kA.1.map ub) :: row b4 32 (encP (pubk 4)) :: row b3 32 (encP (pubk 3)) :: row b2 32 (encP (pubk 2)) :: F :: Hs) := hs
  refine R.done ?_
  refine X.keep [(1, _), (2, _), (3, _), (4, _), (5, _)] ⟨rfl, rfl, rfl, rfl, rfl, trivial⟩ ?_
  refine X.next ?_
  refine C.seq ?_
  refine C.drawn (fun w1 => Sat K w1 [row b5 29 (kA.1.map ub), row b3 32 (encP (pubk 3)), row b2 32 (encP (pubk 2))]) ([2, 3, 6], [0, 1, 5, 8, 10]) (by kernel_rfl) ?_
  have hs := hs.drew
  refine D.evP 0 rfl (by kernel_rfl) rfl (fun _ => hs.to) (fun _ => E.move rfl) ?_
  refine D.evP 1 rfl (by kernel_rfl) rfl (fun _ => hs.to) (fun _ => (E.buildOne (i := 0) rfl Tryd.underlying59 Tryd.zr59 Tryd.sz5 (by decide) rfl).as (u := .agg ((ida 1).1.map ub).toArray) rfl) ?_
  refine D.ev 2 rfl (by kernel_rfl) rfl hs.to (fun _ hS => E.loadRowC rfl Tryd.underlying29 rfl Tryd.sz29 (by exact ⟨hS.ldA, by rfl⟩)) ?_
  refine D.ev 3 rfl (by kernel_rfl) rfl hs.to (fun _ hS => E.loadRowC rfl Tryd.underlying32 rfl Tryd.sz32 (by exact ⟨hS.ldA, by rfl⟩)) ?_
  refine D.ev 6 rfl (by kernel_rfl) rfl hs.to (fun _ hS => E.loadRowC rfl Tryd.underlying32 rfl Tryd.sz32 (by exact ⟨hS.ldA, by rfl⟩)) ?_
  refine D.act 4 rfl (by kernel_rfl) ?_
  refine R.call ⟨_, _, Tryd.func16, rfl, by kernel_rfl⟩ rfl rfl (to_any (pubk 2) hs) ?_
  rintro _ w64 ⟨rfl, hs⟩
  refine D.back hs.to ?_
  refine D.evP 5 rfl (by kernel_rfl) rfl (fun _ => hs.to) (fun _ => E.buildG (r := encCt kr1 []) rfl Tryd.underlying87 Tryd.zr87 Tryd.ql87 (by kernel_rfl) (by kernel_rfl) ⟨⟨_, rfl, by rfl⟩, ⟨_, rfl, by rfl⟩, ⟨_, rfl, by rfl⟩, trivial⟩ (by rfl)) ?_
  refine D.act 7 rfl (by kernel_rfl) ?_
  refine R.call ⟨_, _, Tryd.func16, rfl, by kernel_rfl⟩ rfl rfl (to_any (pubk 3) hs) ?_
  rintro _ w67 ⟨rfl, hs⟩
  refine D.back hs.to ?_
  refine D.evP 8 rfl (by kernel_rfl) rfl (fun _ => hs.to) (fun _ => E.buildG (r := encCm 5 1 (pubk 3)) rfl Tryd.underlying89 Tryd.zr89 Tryd.ql89 (by kernel_rfl) (by kernel_rfl) ⟨⟨_, rfl, by rfl⟩, ⟨_, rfl, by rfl⟩, ⟨_, rfl, by rfl⟩, trivial⟩ (by rfl)) ?_
  refine D.act 9 rfl (by kernel_rfl) ?_
  refine R.call ⟨_, _, Tryd.func34, rfl, by kernel_rfl⟩ rfl rfl (add_any kr1 5 1 [] KInv.nil (by decide) (hs.front (F := F))) ?_
  rintro _ w69 ⟨rfl, MK1, MR1, F1, hI1, hw1, hs1⟩
  have hs := hs.back (F := F) hs1
  rw [kl1] at hI1
  rw [ke1]
  refine D.backT (by kernel_rfl) ?_
  refine D.evP 10 rfl (by kernel_rfl) rfl (np (by kernel_rfl)) (fun _ => E.assign rfl) ?_
  refine D.done rfl (by kernel_rfl) ?_
  refine X.keep [(1, _), (2, _), (3, _), (4, _), (5, _), (6, _)] ⟨rfl, rfl, rfl, rfl, rfl, rfl, trivial⟩ ?_
  refine X.next ?_
  refine C.seq ?_
  refine C.region ?_
  refine R.ev rfl (E.move rfl) ?_
  refine R.ev rfl (E.loadRowC rfl Tryd.underlying29 rfl Tryd.sz29 (by exact ⟨hs.ldA, by rfl⟩)) ?_
  refine R.call ⟨_, _, Tryd.func22, rfl, by kernel_rfl⟩ rfl rfl (chain_any kA hI1 (by decide) hs) ?_
  rintro v32 w32 ⟨c, F32, r32, hc, hs⟩
  obtain rfl : c = kc1 := ChA.det hI1.ok.inj (fun _ _ => Iff.rfl) hc kch1
  obtain ⟨ad32, cap32, rfl, _⟩ := r32.val
  refine R.ev rfl (E.assign rfl) ?_
  refine R.done ?_
  refine X.keep [(1, _), (2, _), (3, _), (4, _), (5, _), (6, _), (7, _)] ⟨rfl, rfl, rfl, rfl, rfl, rfl, rfl, trivial⟩ ?_
  refine X.next ?_
  refine C.seq ?_
  refine C.seq ?_
  refine C.drawn (SatS hs) ([10, 11, 20, 21], [0, 1, 2, 3, 4, 5, 6, 7, 8, 9, 13, 14, 15, 16, 17, 18, 19, 23, 24, 25]) (by kernel_rfl) ?_
  have hs := hs.drew
  obtain ⟨y0, bk0, of0, hy0, _, ly0, rfl, Ay0⟩ := hs.el (i := 0) (ad := ad32) (n := kc1.length) (c := cap32) (by decide)
  obtain rfl : (⟨0, pubk 2, 7, ida 1⟩ : KY) = y0 := Option.some.inj hy0
  have Ay1 := hs.elAt (b := bk0) (off := of0) (n := kc1.length) cap32 (i := 1) (y := ⟨1, pubk 3, -1, kvz⟩) rfl
  refine D.evP 0 rfl (by kernel_rfl) rfl (fun _ => hs.to) (fun _ => E.move rfl) ?_
  refine D.evP 1 rfl (by kernel_rfl) rfl (fun _ => hs.to) (fun _ => (E.neq rfl rfl).isF (by decide)) ?_
  refine D.evP 2 rfl (by kernel_rfl) rfl (fun _ => hs.to) (fun _ => E.move rfl) ?_
  refine D.evPG 3 rfl (by kernel_rfl) rfl rfl rfl (fun _ => hs.to) (fun _ => E.move rfl) ?_
  refine D.evPG 4 rfl (by kernel_rfl) rfl rfl rfl (fun _ => hs.to) (fun _ => E.lenSl rfl Tryd.underlying53) ?_
  refine D.evPG 5 rfl (by kernel_rfl) rfl rfl rfl (fun _ => hs.to) (fun _ => (E.neq rfl rfl).isF (by decide)) ?_
  refine D.evP 6 rfl (by kernel_rfl) rfl (fun _ => hs.to) (fun _ => E.pickF rfl rfl) ?_
  refine D.evP 7 rfl (by kernel_rfl) rfl (fun _ => hs.to) (fun _ => E.move rfl) ?_
  refine D.evPG 8 rfl (by kernel_rfl) rfl rfl rfl (fun _ => hs.to) (fun _ => E.move rfl) ?_
  refine D.evPG 9 rfl (by kernel_rfl) rfl rfl rfl (fun _ => hs.to) (fun _ => E.indexAddr (i := 0) rfl rfl Tryd.underlying53 Tryd.sz61 rfl (by decide)) ?_
  refine D.evPG 13 rfl (by kernel_rfl) rfl rfl rfl (fun _ => hs.to) (fun _ => (E.buildOne (i := 0) rfl Tryd.underlying59 Tryd.zr59 Tryd.sz5 (by decide) rfl).as (u := .agg ((ida 1).1.map ub).toArray) rfl) ?_
  refine D.evG 10 rfl (by kernel_rfl) rfl rfl rfl hs.to (fun _ hS => E.loadRow rfl Tryd.underlying61 rfl Tryd.sz61 (Ay0 _ hS) (encK_len _)) ?_
  refine D.evG 11 rfl (by kernel_rfl) rfl rfl rfl hs.to (fun _ hS => E.loadRowC rfl Tryd.underlying32 rfl Tryd.sz32 (by exact ⟨hS.ldA, by rfl⟩)) ?_
  refine D.act 12 rfl (by kernel_rfl) ?_
  refine R.gyes rfl rfl ?_
  refine R.call ⟨_, _, Tryd.func16, rfl, by kernel_rfl⟩ rfl rfl (to_any (pubk 2) hs) ?_
  rintro _ w812 ⟨rfl, hs⟩
  refine D.back hs.to ?_
  refine D.evPG 14 rfl (by kernel_rfl) rfl rfl rfl (fun _ => hs.to) (fun _ => E.buildG (r := encK ⟨0, pubk 2, 7, ida 1⟩) rfl Tryd.underlying61 Tryd.zr61 Tryd.ql61 (by kernel_rfl) (by kernel_rfl) ⟨⟨_, rfl, by rfl⟩, ⟨_, rfl, by rfl⟩, ⟨_, rfl, by rfl⟩, trivial⟩ (by rfl)) ?_
  refine D.evPG 15 rfl (by kernel_rfl) rfl rfl rfl (fun _ => hs.to) (fun _ => (E.neqAgg 10 rfl rfl Tryd.lv61 rfl Tryd.underlying61 rfl Tryd.gd61 (encK_fits ⟨0, pubk 2, 7, ida 1⟩) (encK_fits ⟨0, pubk 2, 7, ida 1⟩)).isB (c := false) (by rw [encK_eq]; simp)) ?_
  refine D.evP 16 rfl (by kernel_rfl) rfl (fun _ => hs.to) (fun _ => E.pickF rfl rfl) ?_
  refine D.evP 17 rfl (by kernel_rfl) rfl (fun _ => hs.to) (fun _ => E.move rfl) ?_
  refine D.evPG 18 rfl (by kernel_rfl) rfl rfl rfl (fun _ => hs.to) (fun _ => E.move rfl) ?_
  refine D.evPG 19 rfl (by kernel_rfl) rfl rfl rfl (fun _ => hs.to) (fun _ => E.indexAddr (i := 1) rfl rfl Tryd.underlying53 Tryd.sz61 rfl (by decide)) ?_
  refine D.evG 20 rfl (by kernel_rfl) rfl rfl rfl hs.to (fun _ hS => E.loadRow rfl Tryd.underlying61 rfl Tryd.sz61 (Ay1 _ hS) (encK_len _)) ?_
  refine D.evG 21 rfl (by kernel_rfl) rfl rfl rfl hs.to (fun _ hS => E.loadRowC rfl Tryd.underlying32 rfl Tryd.sz32 (by exact ⟨hS.ldA, by rfl⟩)) ?_
  refine D.act 22 rfl (by kernel_rfl) ?_
  refine R.gyes rfl rfl ?_
  refine R.call ⟨_, _, Tryd.func16, rfl, by kernel_rfl⟩ rfl rfl (to_any (pubk 3) hs) ?_
  rintro _ w822 ⟨rfl, hs⟩
  refine D.back hs.to ?_
  refine D.evPG 23 rfl (by kernel_rfl) rfl rfl rfl (fun _ => hs.to) (fun _ => E.buildG (r := encK ⟨1, pubk 3, -1, kvz⟩) rfl Tryd.underlying61 Tryd.zr61 Tryd.ql61 (by kernel_rfl) (by kernel_rfl) ⟨⟨_, rfl, by rfl⟩, ⟨_, rfl, by rfl⟩, ⟨_, rfl, by rfl⟩, trivial⟩ (by rfl)) ?_
  refine D.evPG 24 rfl (by kernel_rfl) rfl rfl rfl (fun _ => hs.to) (fun _ => (E.neqAgg 10 rfl rfl Tryd.lv61 rfl Tryd.underlying61 rfl Tryd.gd61 (encK_fits ⟨1, pubk 3, -1, kvz⟩) (encK_fits ⟨1, pubk 3, -1, kvz⟩)).isB (c := false) (by rw [encK_eq]; simp)) ?_
  refine D.evP 25 rfl (by kernel_rfl) rfl (fun _ => hs.to) (fun _ => E.pickF rfl rfl) ?_
  refine D.done rfl (by kernel_rfl) ?_
  refine X.keep [(1, _), (2, _), (4, _), (5, _), (58, _)] ⟨rfl, rfl, rfl, rfl, rfl, trivial⟩ ?_
  refine X.next ?_
  refine C.cfalse rfl ?_
  refine C.skip ?_
  refine X.next ?_
  refine C.seq ?_
  refine C.drawn (SatS hs) ([1, 2, 9, 10, 18, 19, 27, 28, 36, 37], [0, 4, 6, 7, 8, 12, 14, 15, 16, 17, 21, 23, 24, 25, 26, 30, 32, 33, 34, 35, 39, 41, 42, 43]) (by kernel_rfl) ?_
  have hs := hs.drew
  refine D.evP 0 rfl (by kernel_rfl) rfl (fun _ => hs.to) (fun _ => E.move rfl) ?_
  refine D.evP 4 rfl (by kernel_rfl) rfl (fun _ => hs.to) (fun _ => (E.buildA rfl Tryd.underlying59 Tryd.zr59 Tryd.sz5 rfl).as (u := .agg (encV kvz).toArray) (by rfl)) ?_
  refine D.ev 1 rfl (by kernel_rfl) rfl hs.to (fun _ hS => E.loadRowC rfl Tryd.underlying29 rfl Tryd.sz29 (by exact ⟨hS.ldA, by rfl⟩)) ?_
  refine D.ev 2 rfl (by kernel_rfl) rfl hs.to (fun _ hS => E.loadRowC rfl Tryd.underlying32 rfl Tryd.sz32 (by exact ⟨hS.ldA, by rfl⟩)) ?_
  refine D.act 3 rfl (by kernel_rfl) ?_
  refine R.call ⟨_, _, Tryd.func16, rfl, by kernel_rfl⟩ rfl rfl (to_any (pubk 2) hs) ?_
  rintro _ w103 ⟨rfl, hs⟩
  refine D.back hs.to ?_
  refine D.act 5 rfl (by kernel_rfl) ?_
  refine R.call ⟨_, _, Tryd.func15, rfl, by kernel_rfl⟩ rfl rfl (judge_any kA 0 (pubk 2) 3 kvz hI1 (by decide) hs) ?_
  rintro _ w105 ⟨c1, rfl, hc1, hs⟩
  obtain rfl : c1 = kc1 := ChA.det hI1.ok.inj (fun _ _ => Iff.rfl) hc1 kch1
  rw [show judge kc1 kA 0 (pubk 2) 3 kvz = 0 from (judge_in (m := 0) rfl rfl).trans (by decide)]
  refine D.back hs.to ?_
  refine D.evP 6 rfl (by kernel_rfl) rfl (fun _ => hs.to) (fun _ => (E.eql rfl rfl).isT rfl) ?_
  refine D.evP 7 rfl (by kernel_rfl) rfl (fun _ => hs.to) (fun _ => E.move rfl) ?_
  refine D.evPG 8 rfl (by kernel_rfl) rfl rfl rfl (fun _ => hs.to) (fun _ => E.move rfl) ?_
  refine D.evPG 12 rfl (by kernel_rfl) rfl rfl rfl (fun _ => hs.to) (fun _ => (E.buildOne (i := 0) rfl Tryd.underlying59 Tryd.zr59 Tryd.sz5 (by decide) rfl).as (u := .agg ((ida 1).1.map ub).toArray) rfl) ?_
  refine D.evG 9 rfl (by kernel_rfl) rfl rfl rfl hs.to (fun _ hS => E.loadRowC rfl Tryd.underlying29 rfl Tryd.sz29 (by exact ⟨hS.ldA, by rfl⟩)) ?_
  refine D.evG 10 rfl (by kernel_rfl) rfl rfl rfl hs.to (fun _ hS => E.loadRowC rfl Tryd.underlying32 rfl Tryd.sz32 (by exact ⟨hS.ldA, by rfl⟩)) ?_
  refine D.act 11 rfl (by kernel_rfl) ?_
  refine R.gyes rfl rfl ?_
  refine R.call ⟨_, _, Tryd.func16, rfl, by kernel_rfl⟩ rfl rfl (to_any (pubk 2) hs) ?_
  rintro _ w1011 ⟨rfl, hs⟩
  refine D.back hs.to ?_
  refine D.act 13 rfl (by kernel_rfl) ?_
  refine R.gyes rfl rfl ?_
  refine R.call ⟨_, _, Tryd.func15, rfl, by kernel_rfl⟩ rfl rfl (judge_any kA 0 (pubk 2) 7 (ida 1) hI1 (by decide) hs) ?_
  rintro _ w1013 ⟨c1, rfl, hc1, hs⟩
  obtain rfl : c1 = kc1 := ChA.det hI1.ok.inj (fun _ _ => Iff.rfl) hc1 kch1
  rw [show judge kc1 kA 0 (pubk 2) 7 (ida 1) = 0 from (judge_in (m := 0) rfl rfl).trans (by decide)]
  refine D.back hs.to ?_
  refine D.evPG 14 rfl (by kernel_rfl) rfl rfl rfl (fun _ => hs.to) (fun _ => (E.eql rfl rfl).isT rfl) ?_
  refine D.evP 15 rfl (by kernel_rfl) rfl (fun _ => hs.to) (fun _ => E.pickT rfl rfl) ?_
  refine D.evP 16 rfl (by kernel_rfl) rfl (fun _ => hs.to) (fun _ => E.move rfl) ?_
  refine D.evPG 17 rfl (by kernel_rfl) rfl rfl rfl (fun _ => hs.to) (fun _ => E.move rfl) ?_
  refine D.evPG 21 rfl (by kernel_rfl) rfl rfl rfl (fun _ => hs.to) (fun _ => (E.buildA rfl Tryd.underlying59 Tryd.zr59 Tryd.sz5 rfl).as (u := .agg (encV kvz).toArray) (by rfl)) ?_
  refine D.evG 18 rfl (by kernel_rfl) rfl rfl rfl hs.to (fun _ hS => E.loadRowC rfl Tryd.underlying29 rfl Tryd.sz29 (by exact ⟨hS.ldA, by rfl⟩)) ?_
  refine D.evG 19 rfl (by kernel_rfl) rfl rfl rfl hs.to (fun _ hS => E.loadRowC rfl Tryd.underlying32 rfl Tryd.sz32 (by exact ⟨hS.ldA, by rfl⟩)) ?_
  refine D.act 20 rfl (by kernel_rfl) ?_
  refine R.gyes rfl rfl ?_
  refine R.call ⟨_, _, Tryd.func16, rfl, by kernel_rfl⟩ rfl rfl (to_any (pubk 2) hs) ?_
  rintro _ w1020 ⟨rfl, hs⟩
  refine D.back hs.to ?_
  refine D.act 22 rfl (by kernel_rfl) ?_
  refine R.gyes rfl rfl ?_
  refine R.call ⟨_, _, Tryd.func15, rfl, by kernel_rfl⟩ rfl rfl (judge_any kA 0 (pubk 2) 7 kvz hI1 (by decide) hs) ?_
  rintro _ w1022 ⟨c1, rfl, hc1, hs⟩
  obtain rfl : c1 = kc1 := ChA.det hI1.ok.inj (fun _ _ => Iff.rfl) hc1 kch1
  rw [show judge kc1 kA 0 (pubk 2) 7 kvz = 3 from (judge_in (m := 0) rfl rfl).trans (by decide)]
  refine D.back hs.to ?_
  refine D.evPG 23 rfl (by kernel_rfl) rfl rfl rfl (fun _ => hs.to) (fun _ => (E.eql rfl rfl).isT rfl) ?_
  refine D.evP 24 rfl (by kernel_rfl) rfl (fun _ => hs.to) (fun _ => E.pickT rfl rfl) ?_
  refine D.evP 25 rfl (by kernel_rfl) rfl (fun _ => hs.to) (fun _ => E.move rfl) ?_
  refine D.evPG 26 rfl (by kernel_rfl) rfl rfl rfl (fun _ => hs.to) (fun _ => E.move rfl) ?_
  refine D.evPG 30 rfl (by kernel_rfl) rfl rfl rfl (fun _ => hs.to) (fun _ => (E.buildA rfl Tryd.underlying59 Tryd.zr59 Tryd.sz5 rfl).as (u := .agg (encV kvz).toArray) (by rfl)) ?_
  refine D.evG 27 rfl (by kernel_rfl) rfl rfl rfl hs.to (fun _ hS => E.loadRowC rfl Tryd.underlying29 rfl Tryd.sz29 (by exact ⟨hS.ldA, by rfl⟩)) ?_
  refine D.evG 28 rfl (by kernel_rfl) rfl rfl rfl hs.to (fun _ hS => E.loadRowC rfl Tryd.underlying32 rfl Tryd.sz32 (by exact ⟨hS.ldA, by rfl⟩)) ?_
  refine D.act 29 rfl (by kernel_rfl) ?_
  refine R.gyes rfl rfl ?_
  refine R.call ⟨_, _, Tryd.func16, rfl, by kernel_rfl⟩ rfl rfl (to_any (pubk 2) hs) ?_
  rintro _ w1029 ⟨rfl, hs⟩
  refine D.back hs.to ?_
  refine D.act 31 rfl (by kernel_rfl) ?_
  refine R.gyes rfl rfl ?_
  refine R.call ⟨_, _, Tryd.func15, rfl, by kernel_rfl⟩ rfl rfl (judge_any kA 1 (pubk 2) 0 kvz hI1 (by decide) hs) ?_
  rintro _ w1031 ⟨c1, rfl, hc1, hs⟩
  obtain rfl : c1 = kc1 := ChA.det hI1.ok.inj (fun _ _ => Iff.rfl) hc1 kch1
  rw [show judge kc1 kA 1 (pubk 2) 0 kvz = 2 from (judge_in (m := 1) rfl rfl).trans (by decide)]
  refine D.back hs.to ?_
  refine D.evPG 32 rfl (by kernel_rfl) rfl rfl rfl (fun _ => hs.to) (fun _ => (E.eql rfl rfl).isT rfl) ?_
  refine D.evP 33 rfl (by kernel_rfl) rfl (fun _ => hs.to) (fun _ => E.pickT rfl rfl) ?_
  refine D.evP 34 rfl (by kernel_rfl) rfl (fun _ => hs.to) (fun _ => E.move rfl) ?_
  refine D.evPG 35 rfl (by kernel_rfl) rfl rfl rfl (fun _ => hs.to) (fun _ => E.move rfl) ?_
  refine D.evPG 39 rfl (by kernel_rfl) rfl rfl rfl (fun _ => hs.to) (fun _ => (E.buildA rfl Tryd.underlying59 Tryd.zr59 Tryd.sz5 rfl).as (u := .agg (encV kvz).toArray) (by rfl)) ?_
  refine D.evG 36 rfl (by kernel_rfl) rfl rfl rfl hs.to (fun _ hS => E.loadRowC rfl Tryd.underlying29 rfl Tryd.sz29 (by exact ⟨hS.ldA, by rfl⟩)) ?_
  refine D.evG 37 rfl (by kernel_rfl) rfl rfl rfl hs.to (fun _ hS => E.loadRowC rfl Tryd.underlying32 rfl Tryd.sz32 (by exact ⟨hS.ldA, by rfl⟩)) ?_
  refine D.act 38 rfl (by kernel_rfl) ?_
  refine R.gyes rfl rfl ?_
  refine R.call ⟨_, _, Tryd.func16, rfl, by kernel_rfl⟩ rfl rfl (to_any (pubk 2) hs) ?_
  rintro _ w1038 ⟨rfl, hs⟩
  refine D.back hs.to ?_
  refine D.act 40 rfl (by kernel_rfl) ?_
  refine R.gyes rfl rfl ?_
  refine R.call ⟨_, _, Tryd.func15, rfl, by kernel_rfl⟩ rfl rfl (judge_any kA 2 (pubk 2) 0 kvz hI1 (by decide) hs) ?_
  rintro _ w1040 ⟨c1, rfl, hc1, hs⟩
  obtain rfl : c1 = kc1 := ChA.det hI1.ok.inj (fun _ _ => Iff.rfl) hc1 kch1
  rw [show judge kc1 kA 2 (pubk 2) 0 kvz = 1 from (judge_out (by decide)).trans (by decide)]
  refine D.backT (by kernel_rfl) ?_
  refine D.evPG 41 rfl (by kernel_rfl) rfl rfl rfl (np (by kernel_rfl)) (fun _ => (E.eql rfl rfl).isT rfl) ?_
  refine D.evP 42 rfl (by kernel_rfl) rfl (np (by kernel_rfl)) (fun _ => E.pickT rfl rfl) ?_
  refine D.evP 43 rfl (by kernel_rfl) rfl (np (by kernel_rfl)) (fun _ => E.assign rfl) ?_
  refine D.done rfl (by kernel_rfl) ?_
  refine X.keep [(1, _), (2, _), (4, _), (5, _), (8, _)] ⟨rfl, rfl, rfl, rfl, rfl, trivial⟩ ?_
  refine X.next ?_
  refine C.seq ?_
  refine C.drawn (fun w1 => Sat K w1 [row b5 29 (kA.1.map ub), row b4 32 (encP (pubk 4)), row b2 32 (encP (pubk 2))]) ([2, 3, 6], [0, 1, 5, 8, 10]) (by kernel_rfl) ?_
  have hs := hs.drew
  refine D.evP 0 rfl (by kernel_rfl) rfl (fun _ => hs.to) (fun _ => E.move rfl) ?_
  refine D.evP 1 rfl (by kernel_rfl) rfl (fun _ => hs.to) (fun _ => (E.buildOne (i := 0) rfl Tryd.underlying59 Tryd.zr59 Tryd.sz5 (by decide) rfl).as (u := .agg ((ida 2).1.map ub).toArray) rfl) ?_
  refine D.ev 2 rfl (by kernel_rfl) rfl hs.to (fun _ hS => E.loadRowC rfl Tryd.underlying29 rfl Tryd.sz29 (by exact ⟨hS.ldA, by rfl⟩)) ?_
  refine D.ev 3 rfl (by kernel_rfl) rfl hs.to (fun _ hS => E.loadRowC rfl Tryd.underlying32 rfl Tryd.sz32 (by exact ⟨hS.ldA, by rfl⟩)) ?_
  refine D.ev 6 rfl (by kernel_rfl) rfl hs.to (fun _ hS => E.loadRowC rfl Tryd.underlying32 rfl Tryd.sz32 (by exact ⟨hS.ldA, by rfl⟩)) ?_
  refine D.act 4 rfl (by kernel_rfl) ?_
  refine R.call ⟨_, _, Tryd.func16, rfl, by kernel_rfl⟩ rfl rfl (to_any (pubk 2) hs) ?_
  rintro _ w114 ⟨rfl, hs⟩
  refine D.back hs.to ?_
  refine D.evP 5 rfl (by kernel_rfl) rfl (fun _ => hs.to) (fun _ => E.buildG (r := encCt kr2 []) rfl Tryd.underlying87 Tryd.zr87 Tryd.ql87 (by kernel_rfl) (by kernel_rfl) ⟨⟨_, rfl, by rfl⟩, ⟨_, rfl, by rfl⟩, ⟨_, rfl, by rfl⟩, trivial⟩ (by rfl)) ?_
  refine D.act 7 rfl (by kernel_rfl) ?_
  refine R.call ⟨_, _, Tryd.func16, rfl, by kernel_rfl⟩ rfl rfl (to_any (pubk 4) hs) ?_
  rintro _ w117 ⟨rfl, hs⟩
  refine D.back hs.to ?_
  refine D.evP 8 rfl (by kernel_rfl) rfl (fun _ => hs.to) (fun _ => E.buildG (r := encCm 5 1 (pubk 4)) rfl Tryd.underlying89 Tryd.zr89 Tryd.ql89 (by kernel_rfl) (by kernel_rfl) ⟨⟨_, rfl, by rfl⟩, ⟨_, rfl, by rfl⟩, ⟨_, rfl, by rfl⟩, trivial⟩ (by rfl)) ?_
  refine D.act 9 rfl (by kernel_rfl) ?_
  refine R.call ⟨_, _, Tryd.func34, rfl, by kernel_rfl⟩ rfl rfl (add_any kr2 5 1 [] hI1 (by decide) (hs.front (F := F1))) ?_
  rintro _ w119 ⟨rfl, MK2, MR2, F2, hI2, hw2, hs1⟩
  have hs := hs.back (F := F1) hs1
  rw [kl2] at hI2
  rw [ke2]
  refine D.backT (by kernel_rfl) ?_
  refine D.evP 10 rfl (by kernel_rfl) rfl (np (by kernel_rfl)) (fun _ => E.assign rfl) ?_
  refine D.done rfl (by kernel_rfl) ?_
  refine X.keep [(1, _), (4, _), (5, _), (8, _), (9, _)] ⟨rfl, rfl, rfl, rfl, rfl, trivial⟩ ?_
  refine X.next ?_
  refine C.seq ?_
  refine C.region ?_
  refine R.ev rfl (E.move rfl) ?_
  refine R.ev rfl (E.loadRowC rfl Tryd.underlying29 rfl Tryd.sz29 (by exact ⟨hs.ldA, by rfl⟩)) ?_
  refine R.call ⟨_, _, Tryd.func24, rfl, by kernel_rfl⟩ rfl rfl (key_any kA 1 hI2 (by decide) hs) ?_
  rintro _ w122 ⟨c2, rfl, hc2, hs⟩
  obtain rfl : c2 = kc2 := ChA.det hI2.ok.inj (fun _ _ => Iff.rfl) hc2 kch2
  rw [show kyAt kc2 1 = ⟨1, pubk 4, -1, kvz⟩ from rfl, show inC kc2 1 = true from rfl]
  refine R.ev rfl (E.move rfl) ?_
  refine R.ev rfl (E.extract rfl rfl) ?_
  refine R.ev rfl (E.extract rfl rfl) ?_
  refine R.sallocA hs Tryd.zr61 rfl ?_
  intro b10 w10 hs
  refine R.cstoreAll hs rfl rfl Tryd.sz61 (by rfl) (by rfl) (by exact Enc.one _) ?_
  intro w12_7 hs
  try simp only [List.set_cons_zero, List.set_cons_succ] at hs
  refine R.ev rfl (E.assign rfl) ?_
  refine R.done ?_
  refine X.keep [(1, _), (4, _), (8, _), (9, _), (10, _), (11, _)] ⟨rfl, rfl, rfl, rfl, rfl, rfl, trivial⟩ ?_
  refine X.next ?_
  refine C.seq ?_
  refine C.drawn (SatS hs) ([10, 11], [0, 1, 2, 3, 4, 5, 6, 7, 8, 9, 13, 14, 15, 16, 18, 19, 20]) (by kernel_rfl) ?_
  have hs := hs.drew
  refine D.evP 0 rfl (by kernel_rfl) rfl (fun _ => hs.to) (fun _ => E.move rfl) ?_
  refine D.evP 1 rfl (by kernel_rfl) rfl (fun _ => hs.to) (fun _ => E.move rfl) ?_
  refine D.evPG 2 rfl (by kernel_rfl) rfl rfl rfl (fun _ => hs.to) (fun _ => E.move rfl) ?_
  refine D.evPG 3 rfl (by kernel_rfl) rfl rfl rfl (fun _ => hs.to) (fun _ => (E.eql rfl rfl).isT rfl) ?_
  refine D.evP 4 rfl (by kernel_rfl) rfl (fun _ => hs.to) (fun _ => E.pickT rfl rfl) ?_
  refine D.evP 5 rfl (by kernel_rfl) rfl (fun _ => hs.to) (fun _ => E.move rfl) ?_
  refine D.evPG 6 rfl (by kernel_rfl) rfl rfl rfl (fun _ => hs.to) (fun _ => E.move rfl) ?_
  refine D.evP 7 rfl (by kernel_rfl) rfl (fun _ => hs.to) (fun _ => E.pickT rfl rfl) ?_
  refine D.evP 8 rfl (by kernel_rfl) rfl (fun _ => hs.to) (fun _ => E.move rfl) ?_
  refine D.evPG 9 rfl (by kernel_rfl) rfl rfl rfl (fun _ => hs.to) (fun _ => E.fieldAddr0 1 rfl Tryd.underlying61 rfl Tryd.sz36 rfl) ?_
  refine D.evG 10 rfl (by kernel_rfl) rfl rfl rfl hs.to (fun _ hS => E.loadRowC rfl Tryd.underlying36 rfl Tryd.sz36 (by exact ⟨hS.ldM rfl rfl, by rfl⟩)) ?_
  refine D.evG 11 rfl (by kernel_rfl) rfl rfl rfl hs.to (fun _ hS => E.loadRowC rfl Tryd.underlying32 rfl Tryd.sz32 (by exact ⟨hS.ldA, by rfl⟩)) ?_
  refine D.act 12 rfl (by kernel_rfl) ?_
  refine R.gyes rfl rfl ?_
  refine R.call ⟨_, _, Tryd.func16, rfl, by kernel_rfl⟩ rfl rfl (to_any (pubk 4) hs) ?_
  rintro _ w1312 ⟨rfl, hs⟩
  refine D.back hs.to ?_
  refine D.evPG 13 rfl (by kernel_rfl) rfl rfl rfl (fun _ => hs.to) (fun _ => (E.eqlAgg 10 rfl rfl Tryd.lv36 rfl Tryd.underlying36 rfl Tryd.gd36 (encP_fits (pubk 4)) (encP_fits (pubk 4))).isB (c := true) (by rw [encP_eq]; simp)) ?_
  refine D.evP 14 rfl (by kernel_rfl) rfl (fun _ => hs.to) (fun _ => E.pickT rfl rfl) ?_
  refine D.evP 15 rfl (by kernel_rfl) rfl (fun _ => hs.to) (fun _ => E.move rfl) ?_
  refine D.evPG 16 rfl (by kernel_rfl) rfl rfl rfl (fun _ => hs.to) (fun _ => E.move rfl) ?_
  refine D.act 17 rfl (by kernel_rfl) ?_
  refine R.gyes rfl rfl ?_
  refine R.call ⟨_, _, Tryd.func28, rfl, by kernel_rfl⟩ rfl rfl (len_any hI2 hs) ?_
  rintro _ w1317 ⟨rfl, hs⟩
  refine D.backT (by kernel_rfl) ?_
  refine D.evPG 18 rfl (by kernel_rfl) rfl rfl rfl (np (by kernel_rfl)) (fun _ => (E.eql rfl rfl).isT (by decide)) ?_
  refine D.evP 19 rfl (by kernel_rfl) rfl (np (by kernel_rfl)) (fun _ => E.pickT rfl rfl) ?_
  refine D.evP 20 rfl (by kernel_rfl) rfl (np (by kernel_rfl)) (fun _ => E.assign rfl) ?_
  refine D.done rfl (by kernel_rfl) ?_
  refine X.keep [(0, _)] ⟨rfl, trivial⟩ ?_
  refine X.next ?_
  refine C.ret ?_
  refine X.ret1 rfl rfl ?_
  exact ⟨rfl, hs.to⟩
end Go.Proofs.YtbkgibgomohdjaaDoor
