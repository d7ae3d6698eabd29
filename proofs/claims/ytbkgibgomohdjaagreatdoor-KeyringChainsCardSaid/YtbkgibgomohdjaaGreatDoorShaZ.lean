/-
 Package sha256 and package signer: the identity of an author.
-/
import Derived.Test.YtbkgibgomohdjaaGreatDoorShaY
namespace Go.Proofs.YtbkgibgomohdjaaGreatDoor
open Go.Eng Go.RowKit Go.Sort
variable {K K' : Kn} {Hs Rs : List Hl} {F : Hl} {w : World} {v : Value}
theorem sum17_any {bs : List UInt8} {ad : Option Addr} {m c : Nat} (h : bs.length = 17) [HasKc K] (hs : Sat K w Hs) [hr : Rd encB 1 K Hs (.slice ad m c) bs] : Ret Tryz.prog 85 #[.slice ad m c] w fun v w' => v = idV (digL (sha1 (pad17 bs))) ∧ Sat K w' Hs := by
 have hdl : (digL (sha1 (pad17 bs))).length = 32 := by simp [digL]
 refine Ret.enter (n := 10) (args := [.slice ad m c]) Tryz.func85 rfl rfl ?_
 refine C.keep [(0, _)] ⟨rfl, trivial⟩ (C.seq (C.region ?_))
 refine R.sallocA hs Tryz.zr157 rfl ?_
 intro b2 w2 hs
 refine R.done (X.keep [(0, _), (2, _)] ⟨rfl, rfl, trivial⟩ (X.next (C.seq (C.region ?_))))
 refine R.call ⟨_, _, Tryz.func90, rfl, by kernel_rfl⟩ rfl rfl (hash_new_any hs) ?_
 rintro _ w1 ⟨p, rfl, hs⟩
 refine R.ev rfl (E.assign rfl) (R.done (X.keep [(0, _), (2, _), (3, _)] ⟨rfl, rfl, rfl, trivial⟩ (X.next (C.seq (C.region (R.ev rfl (E.move rfl) (R.ev rfl (E.move rfl) ?_)))))))
 refine R.call ⟨_, _, Tryz.func91, rfl, by kernel_rfl⟩ rfl rfl (write_any (bs := bs) (by simp) (by intro e; rw [e] at h; simp at h) (by omega) hs) ?_
 rintro _ w2 ⟨rfl, hs⟩
 rw [show 0 + bs.length = 17 by omega] at hs
 refine R.done (X.keep [(2, _), (3, _)] ⟨rfl, rfl, trivial⟩ (X.next (C.seq (C.region (R.ev rfl (E.move rfl) ?_)))))
 refine R.call ⟨_, _, Tryz.func92, rfl, by kernel_rfl⟩ rfl rfl (hsum_any h hs) ?_
 rintro _ w3 ⟨rfl, hs⟩
 refine R.cstoreAll hs rfl rfl Tryz.sz157 (by rfl) (by rfl) (by exact OneL.all) ?_
 intro w3_2 hs
 try simp only [List.set_cons_zero, List.set_cons_succ] at hs
 refine R.done (X.keep [(2, _)] ⟨rfl, trivial⟩ (X.next (C.ret ?_)))
 refine X.resC rfl rfl Tryz.underlying157 rfl Tryz.sz157 (by exact ⟨hs.ldA, by rfl⟩) ?_
 exact ⟨rfl, hs.to⟩
theorem digL_half (bs : List UInt8) : (digL (sha1 (pad17 bs))).map ub = (half17 bs).map ub ++ ((digL (sha1 (pad17 bs))).drop 16).map ub := by
 rw [← List.map_append]
 congr 1
theorem half17_len (bs : List UInt8) : (half17 bs).length = 16 := by simp [half17]
theorem half_any {bs : List UInt8} {ad : Option Addr} {m c : Nat} (h : bs.length = 17) [HasKc K] (hs : Sat K w Hs) [hr : Rd encB 1 K Hs (.slice ad m c) bs] : Ret Tryz.prog 66 #[.slice ad m c] w fun v w' => v = idV (half17 bs) ∧ Sat K w' Hs := by
 have hdl : (digL (sha1 (pad17 bs))).length = 32 := by simp [digL]
 have hhl := half17_len bs
 refine Ret.enter (n := 9) (args := [.slice ad m c]) Tryz.func66 rfl rfl ?_
 refine C.keep [(0, _)] ⟨rfl, trivial⟩ (C.seq (C.region ?_))
 refine R.sallocA hs Tryz.zr137 rfl ?_
 intro b2 w2 hs
 refine R.done (X.keep [(0, _), (2, _)] ⟨rfl, rfl, trivial⟩ (X.next (C.seq (C.region (R.ev rfl (E.move rfl) ?_)))))
 refine R.call ⟨_, _, Tryz.func85, rfl, by kernel_rfl⟩ rfl rfl (sum17_any h hs) ?_
 rintro _ w1 ⟨rfl, hs⟩
 refine R.sallocA hs Tryz.zr157 rfl ?_
 intro b3 w3 hs
 refine R.cstoreAll hs rfl rfl Tryz.sz157 (by rfl) (by rfl) (by exact OneL.all) ?_
 intro w1_3 hs
 try simp only [List.set_cons_zero, List.set_cons_succ] at hs
 refine R.done (X.keep [(2, _), (3, _)] ⟨rfl, rfl, trivial⟩ (X.next (C.seq (C.region ?_))))
 refine R.ev rfl (E.sliceAH (b := 16) rfl rfl Tryz.underlying157 Tryz.sz5 rfl (by decide)) ?_
 refine R.ev rfl (E.arrPtr rfl Tryz.underlying137 (by omega)) (R.ev rfl (E.loadRow rfl Tryz.underlying137 rfl Tryz.sz137 (hs.ldP (digL_half bs)) (by simp [hhl])) ?_)
 refine R.cstoreAll hs rfl rfl Tryz.sz137 (by rfl) (by rfl) (by exact OneL.all) ?_
 intro w2_3 hs
 try simp only [List.set_cons_zero, List.set_cons_succ] at hs
 refine R.done (X.keep [(2, _)] ⟨rfl, trivial⟩ (X.next (C.ret ?_)))
 refine X.resC rfl rfl Tryz.underlying137 rfl Tryz.sz137 (by exact ⟨hs.ldA, by rfl⟩) ?_
 exact ⟨rfl, hs.to⟩
theorem checkH_any (h : Int) (hs : Sat K w Hs) : Ret Tryz.prog 48 #[.int .i64 h] w fun v w' => v = .int .i64 (if 1 ≤ h ∧ h ≤ 8 then 0 else 2) ∧ Sat K w' Hs := by
 refine Ret.enter (n := 9) (args := [.int .i64 h]) Tryz.func48 rfl rfl ?_
 refine C.keep [(0, _)] ⟨rfl, trivial⟩ (C.seq (C.region (R.ev rfl (E.assign rfl) (R.done (X.keep [(0, _)] ⟨rfl, trivial⟩ (X.next (C.seq (C.seq ?_))))))))
 refine C.region (R.ev rfl (E.move rfl) (R.ev rfl (E.lss rfl rfl) (R.ev rfl (E.move rfl) ?_)))
 refine R.split 5 rfl (fun h5 => ?_) (fun h5 => ?_)
 refine R.gskip rfl rfl rfl (R.gskip rfl rfl rfl (R.ev rfl (E.pickT rfl rfl) (R.done (X.keep [(8, _)] ⟨rfl, trivial⟩ (X.next (C.ctrue rfl (C.seq (C.region ?_))))))))
 refine R.ev rfl (E.assign rfl) (R.done (X.keep [(2, _)] ⟨rfl, trivial⟩ (X.next (C.ret (X.thenRet (X.ret1 rfl rfl ?_))))))
 (have h5 := of_decide_eq_true h5; rw [if_neg (by omega)]; exact ⟨rfl, hs⟩)
 refine R.gyes rfl rfl (R.ev rfl (E.move rfl) (R.gyes rfl rfl (R.ev rfl (E.gtr rfl rfl) (R.ev rfl (E.pickF rfl rfl) (R.done (X.keep [(8, _)] ⟨rfl, trivial⟩ (X.next ?_)))))))
 refine C.cdec rfl (fun h8 => ?_) (fun h8 => ?_)
 refine C.seq (C.region (R.ev rfl (E.assign rfl) (R.done (X.keep [(2, _)] ⟨rfl, trivial⟩ (X.next (C.ret (X.thenRet (X.ret1 rfl rfl ?_))))))))
 (rw [if_neg (by omega)]; exact ⟨rfl, hs⟩)
 refine C.skip (X.next (C.seq (C.region (R.ev rfl (E.assign rfl) (R.done (X.keep [(2, _)] ⟨rfl, trivial⟩ (X.next (C.ret ?_))))))))
 refine X.ret1 rfl rfl ?_
 have h5 := of_decide_eq_false h5
 exact ⟨by rw [if_pos (by omega)], hs⟩
theorem fine_ite (p : PK) : (if 1 ≤ p.h ∧ p.h ≤ 8 then (0 : Int) else 2) = if fine p = true then 0 else 2 := by
 by_cases h : 1 ≤ p.h ∧ p.h ≤ 8
 · rw [if_pos h, if_pos (by simp [fine, h])]
 · rw [if_neg h, if_neg (by simpa [fine] using h)]
theorem check_any (p : PK) (hs : Sat K w Hs) : Ret Tryz.prog 32 #[.agg (encP p).toArray] w fun v w' => v = .int .i64 (if fine p = true then 0 else 2) ∧ Sat K w' Hs := by
 refine Ret.enter (n := 6) (args := [.agg (encP p).toArray]) Tryz.func32 rfl rfl ?_
 refine C.keep [(0, _)] ⟨rfl, trivial⟩ (C.seq (C.region ?_))
 refine R.sboxA hs rfl rfl ?_
 intro b1 w1 hs
 refine R.ev rfl (E.assign rfl) (R.done (X.keep [(1, _)] ⟨rfl, trivial⟩ (X.next (C.seq (C.region (R.ev rfl (E.fieldAddr0 0 rfl Tryz.underlying35 rfl Tryz.sz3 rfl) (R.ev rfl (E.load1 rfl Tryz.underlying3 rfl (by exact hs.ldc)) ?_)))))))
 refine R.call ⟨_, _, Tryz.func48, rfl, by kernel_rfl⟩ rfl rfl (checkH_any _ hs) ?_
 rintro _ w1 ⟨rfl, hs⟩
 refine R.ev rfl (E.assign rfl) (R.done (X.keep [(2, _)] ⟨rfl, trivial⟩ (X.next (C.ret (X.ret1 rfl rfl ?_)))))
 exact ⟨by rw [fine_ite], hs.to⟩
theorem hbyte_eq (h : Int) : IntKind.u8.wrap h = ((hbyte h).toNat : Int) := by
 rw [IntKind.wrap_u8, hbyte, UInt8.toNat_ofNat']
 omega
theorem pbytes_any (p : PK) (hs : Sat K w Hs) : Ret Tryz.prog 67 #[.agg (encP p).toArray] w fun v w' => ∃ F', RowL 5 encB 1 v (hbyte p.h :: p.r.1) F' ∧ Sat K w' (F' :: Hs) := by
 have hpl := p.r.2
 refine Ret.enter (n := 10) (args := [.agg (encP p).toArray]) Tryz.func67 rfl rfl ?_
 refine C.keep [(0, _)] ⟨rfl, trivial⟩ (C.seq (C.region ?_))
 refine R.sboxA hs rfl rfl ?_
 intro b1 w1 hs
 refine R.ev rfl (E.assign rfl) (R.done (X.keep [(1, _)] ⟨rfl, trivial⟩ (X.next (C.seq ?_))))
 refine C.drawn (SatS hs) ([1], [0, 2, 4, 5, 7]) (by kernel_rfl) ?_
 have hs := hs.drew
 refine D.evP 0 rfl (by kernel_rfl) rfl (fun _ => hs.to) (fun _ => E.fieldAddr0 0 rfl Tryz.underlying35 rfl Tryz.sz3 rfl) (D.evP 4 rfl (by kernel_rfl) rfl (fun _ => hs.to) (fun _ => E.fieldAddr0 1 rfl Tryz.underlying35 rfl Tryz.sz28 rfl) (D.evP 5 rfl (by kernel_rfl) rfl (fun _ => hs.to) (fun _ => E.sliceA rfl Tryz.underlying28 Tryz.sz5) (D.ev 1 rfl (by kernel_rfl) rfl hs.to (fun _ hS => E.load1 rfl Tryz.underlying3 rfl (by exact hS.ldc)) ?_)))
 refine D.evP 2 rfl (by kernel_rfl) rfl (fun _ => hs.to) (fun _ => (E.conv rfl Tryz.underlying3 Tryz.underlying5).as (u := ub (hbyte p.h)) (by rw [hbyte_eq])) ?_
 refine D.act 3 rfl (by kernel_rfl) ?_
 refine R.buildSlice1 (parts := [(0, .tmp 5)]) (vs := [_]) rfl rfl rfl Tryz.underlying80 Tryz.sz5 Tryz.zr5 rfl (by simp [Value.oneCell']) (by decide) ?_
 intro b6 w6 n6
 have hs := hs.new n6
 refine D.backT (by kernel_rfl) (D.act 6 rfl (by kernel_rfl) ?_)
 have r6 := rowB1 b6 (hbyte p.h)
 have hrd : Rd encB 1 K (row b6 5 [ub (hbyte p.h)] :: row b1 35 (encP p) :: Hs) (.slice (some ⟨b1, 1, none⟩) (15 + 1) (15 + 1)) p.r.1 := Rd.bytes (c1 := [.int .i64 p.h]) (c3 := []) (by simp [encP]) rfl p.r.2 (by omega)
 refine R.cappSl hs rfl rfl Tryz.underlying80 Tryz.by5 (by rfl) rfl (by decide) (by simp [hpl]) (by simp [hpl]) ?_
 intro v9 w9 F9 r9 hs
 refine D.backT (by kernel_rfl) (D.evP 7 rfl (by kernel_rfl) rfl (np (by kernel_rfl)) (fun _ => E.assign rfl) (D.done rfl (by kernel_rfl) (X.keep [(2, _)] ⟨rfl, trivial⟩ (X.next (C.ret (X.ret1 rfl rfl ?_))))))
 exact ⟨F9, r9, hs.to⟩
theorem sOf_any (p : PK) [HasKc K] (hs : Sat K w Hs) : Ret Tryz.prog 49 #[.agg (encP p).toArray] w fun v w' => v = .tuple #[idV (if fine p = true then (ofP p).1 else List.replicate 16 0), .int .i64 (if fine p = true then 0 else 2)] ∧ Sat K w' Hs := by
 have hpl := p.r.2
 have hz : (List.replicate 16 (0 : UInt8)).length = 16 := rfl
 refine Ret.enter (n := 14) (args := [.agg (encP p).toArray]) Tryz.func49 rfl rfl ?_
 refine C.keep [(0, _)] ⟨rfl, trivial⟩ (C.seq (C.region ?_))
 refine R.sboxA hs rfl rfl ?_
 intro b1 w1 hs
 refine R.sallocA hs Tryz.zr54 rfl ?_
 intro b2 w2 hs
 refine R.ev rfl (E.assign rfl) (R.done (X.keep [(1, _), (2, _)] ⟨rfl, rfl, trivial⟩ (X.next (C.seq (C.seq (C.region (R.ev rfl (E.loadRowC rfl Tryz.underlying35 rfl Tryz.sz35 (by exact ⟨hs.ldA, by exact Enc.len _⟩)) ?_)))))))
 refine R.call ⟨_, _, Tryz.func32, rfl, by kernel_rfl⟩ rfl rfl (check_any p hs) ?_
 rintro _ w1 ⟨rfl, hs⟩
 refine R.ev rfl (E.assign rfl) (R.done (X.keep [(1, _), (2, _), (4, _)] ⟨rfl, rfl, rfl, trivial⟩ (X.next (C.seq (C.region (R.ev rfl (E.move rfl) ?_))))))
 refine R.ev rfl ((E.neq rfl rfl).isB (c := !(fine p)) (by cases fine p <;> rfl)) ?_
 refine R.done (X.keep [(1, _), (2, _), (4, _), (8, _)] ⟨rfl, rfl, rfl, rfl, trivial⟩ (X.next ?_))
 refine C.cbool rfl (fun h8 => ?_) (fun h8 => ?_)
 refine C.seq (C.region ?_)
 have hf : ¬ fine p = true := by simpa using h8
 refine R.ev rfl ((E.buildA rfl Tryz.underlying54 Tryz.zr54 Tryz.sz5 rfl).as (u := .agg (encV (⟨List.replicate 16 0, rfl⟩ : Vec 16)).toArray) (by rfl)) ?_
 refine R.ev rfl (E.move rfl) ?_
 refine R.cstoreAll hs rfl rfl Tryz.sz54 (by rfl) (by rfl) (by exact OneL.all) ?_
 intro w3_2 hs
 try simp only [List.set_cons_zero, List.set_cons_succ] at hs
 refine R.ev rfl (E.assign rfl) (R.done (X.keep [(2, _), (3, _)] ⟨rfl, rfl, trivial⟩ (X.next (C.ret (X.thenRet ?_)))))
 refine X.resCT rfl rfl Tryz.underlying54 rfl Tryz.sz54 (by exact ⟨hs.ldA, by rfl⟩) rfl ?_
 exact ⟨by rw [if_neg hf, if_neg hf], hs.to⟩
 refine C.skip (X.next (C.seq (C.region ?_)))
 have hf : fine p = true := by simpa using h8
 refine R.ev rfl (E.loadRowC rfl Tryz.underlying35 rfl Tryz.sz35 (by exact ⟨hs.ldA, by exact Enc.len _⟩)) ?_
 refine R.call ⟨_, _, Tryz.func67, rfl, by kernel_rfl⟩ rfl rfl (pbytes_any p hs) ?_
 rintro v12 w12 ⟨F12, r12, hs⟩
 obtain ⟨ad12, cap12, rfl, _⟩ := r12.val
 refine R.call ⟨_, _, Tryz.func66, rfl, by kernel_rfl⟩ rfl rfl (half_any (bs := hbyte p.h :: p.r.1) (by simp [hpl]) hs) ?_
 rintro _ w13 ⟨rfl, hs⟩
 have hhl := half17_len (hbyte p.h :: p.r.1)
 refine R.cstoreAll hs rfl rfl Tryz.sz54 (by rfl) (by rfl) (by exact OneL.all) ?_
 intro w4_3 hs
 try simp only [List.set_cons_zero, List.set_cons_succ] at hs
 refine R.ev rfl (E.assign rfl) (R.done (X.keep [(2, _), (3, _)] ⟨rfl, rfl, trivial⟩ (X.next (C.ret ?_))))
 refine X.resCT rfl rfl Tryz.underlying54 rfl Tryz.sz54 (by exact ⟨hs.ldA, by rfl⟩) rfl ?_
 exact ⟨by rw [if_pos hf, if_pos hf]; rfl, hs.to⟩
theorem isFirst_any (a : Vec 16) (p : PK) [HasKc K] (hs : Sat K w Hs) : Ret Tryz.prog 33 #[idV a.1, .agg (encP p).toArray] w fun v w' => v = .bool (fine p && decide (ofP p = a)) ∧ Sat K w' Hs := by
 have hal := a.2
 have hz : (List.replicate 16 (0 : UInt8)).length = 16 := rfl
 have hvl : (if fine p = true then (ofP p).1 else List.replicate 16 0).length = 16 := by split; exact (ofP p).2; rfl
 refine Ret.enter (n := 19) (args := [idV a.1, .agg (encP p).toArray]) Tryz.func33 rfl rfl ?_
 refine C.keep [(0, _), (1, _)] ⟨rfl, rfl, trivial⟩ (C.seq (C.region ?_))
 refine R.sboxA hs rfl rfl ?_
 intro b2 w2 hs
 refine R.sboxA hs rfl rfl ?_
 intro b3 w3 hs
 refine R.ev rfl (E.assign rfl) (R.done (X.keep [(2, _), (3, _)] ⟨rfl, rfl, trivial⟩ (X.next (C.seq (C.region (R.ev rfl (E.loadRowC rfl Tryz.underlying35 rfl Tryz.sz35 (by exact ⟨hs.ldA, by exact Enc.len _⟩)) ?_))))))
 refine R.call ⟨_, _, Tryz.func49, rfl, by kernel_rfl⟩ rfl rfl (sOf_any p hs) ?_
 rintro _ w1 ⟨rfl, hs⟩
 refine R.ev rfl (E.move rfl) (R.ev rfl (E.extract rfl rfl) (R.ev rfl (E.extract rfl rfl) ?_))
 refine R.sallocA hs Tryz.zr54 rfl ?_
 intro b5 w5 hs
 refine R.cstoreAll hs rfl rfl Tryz.sz54 (by rfl) (by exact len_ub (by assumption)) (by exact OneL.all) ?_
 intro w1_6 hs
 try simp only [List.set_cons_zero, List.set_cons_succ] at hs
 refine R.ev rfl (E.assign rfl) (R.done (X.keep [(2, _), (5, _), (6, _)] ⟨rfl, rfl, rfl, trivial⟩ (X.next (C.seq (C.region (R.ev rfl (E.move rfl) ?_))))))
 refine R.ev rfl ((E.eql rfl rfl).isB (c := fine p) (by cases fine p <;> rfl)) ?_
 refine R.ev rfl (E.move rfl) ?_
 refine R.split 14 rfl (fun h14 => ?_) (fun h14 => ?_)
 refine R.gyes rfl rfl ?_
 refine R.ev rfl (E.loadRow (cs := (ofP p).1.map ub) rfl Tryz.underlying54 rfl Tryz.sz54 (by rw [if_pos h14] at hs; exact hs.ldA) (encV_len _)) ?_
 refine R.gyes rfl rfl (R.ev rfl (E.loadRowC rfl Tryz.underlying54 rfl Tryz.sz54 (by exact ⟨hs.ldA, by exact encV_len _⟩)) (R.gyes rfl rfl (R.ev rfl (E.eqV 10 rfl rfl Tryz.lv54 rfl Tryz.underlying54 rfl Tryz.gd54) (R.ev rfl (E.pickT rfl rfl) (R.ev rfl (E.assign rfl) (R.done (X.keep [(4, _)] ⟨rfl, trivial⟩ (X.next ?_))))))))
 refine C.ret (X.ret1 rfl rfl ?_)
 (rw [h14]; exact ⟨rfl, hs.to⟩)
 refine R.gskip rfl rfl rfl (R.gskip rfl rfl rfl (R.gskip rfl rfl rfl (R.ev rfl (E.pickF rfl rfl) (R.ev rfl (E.assign rfl) (R.done (X.keep [(4, _)] ⟨rfl, trivial⟩ (X.next (C.ret ?_))))))))
 refine X.ret1 rfl rfl ?_
 (rw [h14]; exact ⟨rfl, hs.to⟩)
end Go.Proofs.YtbkgibgomohdjaaGreatDoor
