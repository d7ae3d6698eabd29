/-
 Chapter 19: add, build, chain, chains.
-/
import Derived.Test.YtbkgibgomohdjaaGreatDoorKrK
namespace Go.Proofs.YtbkgibgomohdjaaGreatDoor
open Go.Eng Go.RowKit Go.Sort
variable {K : Kn} {Hs Rs : List Hl} {F : Hl} {w : World} {v : Value} {L : List RO} {p : Nat} {MK : MKn} {MR : MRo}
def StP (K : Kn) (Rs : List Hl) (p : Nat) (L : List RO) (f : Value → Value) (r : Value) (w' : World) : Prop := ∃ K' v' MK' MR' F', r = f v' ∧ KLe K K' ∧ KRow encO 84 K' v' L ∧ KInv MK' MR' L ∧ KrL p MK' MR' F' ∧ Sat K' w' (F' :: Rs)
theorem ladd_any (m : Mv) [HasKc K] (hI : KInv MK MR L) (hlen : L.length ≤ 1000) (hs : Sat K w (F :: Rs)) [hr : KRow encO 84 K v L] [hw : KrL p MK MR F] : Ret Tryz.prog 19 #[ptr p, v, .agg (encMv m).toArray] w fun r w' => StP K Rs p (stepL L m) (fun v => .tuple #[v, .bool true]) r w' := by
 have o1 : OneC v := ⟨KRow.oneC' hr⟩
 have q1 := encO_len (rkR m)
 have q2 := encP_len (rkR m).pu
 have q3 := encP_len (rkR m).nw
 have q4 := encV_len (rkR m).au
 have q5 := encV_len kvz
 have q6 := (rkR m).au.2
 refine Ret.enter (n := 52) (args := [ptr p, v, .agg (encMv m).toArray]) Tryz.func19 rfl rfl ?_
 refine C.keep [(0, _), (1, _), (2, _)] ⟨rfl, rfl, rfl, trivial⟩ (C.seq (C.region ?_))
 refine R.sboxA hs rfl rfl ?_
 intro b5 w5 hs
 refine R.ev rfl (E.assign rfl) (R.ev rfl (E.assign rfl) (R.done (X.keep [(0, _), (1, _), (5, _)] ⟨rfl, rfl, rfl, trivial⟩ (X.next (C.seq (C.region (R.ev rfl (E.loadRowC rfl Tryz.underlying66 rfl Tryz.sz66 (by exact ⟨hs.ldA, by rfl⟩)) ?_)))))))
 refine R.call ⟨_, _, Tryz.func36, rfl, by kernel_rfl⟩ rfl rfl (rekey_any m hs) ?_
 rintro _ w1 ⟨rfl, hs⟩
 refine R.ev rfl (E.move rfl) (R.ev rfl (E.extract rfl rfl) (R.ev rfl (E.extract rfl rfl) (R.ev rfl (E.extract rfl rfl) ?_)))
 refine R.sallocA hs Tryz.zr69 rfl ?_
 intro b8 w8 hs
 refine R.cstoreAll hs rfl rfl Tryz.sz69 (by rfl) (by assumption) (by exact Enc.one _) ?_
 intro w1_7 hs
 try simp only [List.set_cons_zero, List.set_cons_succ] at hs
 refine R.ev rfl (E.assign rfl) (R.ev rfl (E.assign rfl) (R.done (X.keep [(0, _), (1, _), (8, _), (9, _), (10, _)] ⟨rfl, rfl, rfl, rfl, rfl, trivial⟩ (X.next (C.seq (C.region (R.ev rfl (E.move rfl) (R.ev rfl (E.loadRowC rfl Tryz.underlying69 rfl Tryz.sz69 (by exact ⟨hs.ldA, by assumption⟩)) ?_))))))))
 refine R.ev rfl (E.move rfl) (R.ev rfl (E.move rfl) ?_)
 refine R.call ⟨_, _, Tryz.func37, rfl, by kernel_rfl⟩ rfl rfl (radd_any (rkR m) (rkK m) (rkT m) hs (by omega)) ?_
 rintro _ w2 ⟨K2, v2, rfl, hk2, hr2, hs⟩
 have o2 : OneC v2 := ⟨KRow.oneC' hr2⟩
 refine R.ev rfl (E.move rfl) (R.ev rfl (E.extract rfl rfl) (R.ev rfl (E.extract rfl rfl) (R.ev rfl (E.assign rfl) (R.ev rfl (E.assign rfl) (R.done (X.keep [(0, _), (8, _), (9, _), (10, _), (11, _), (12, _)] ⟨rfl, rfl, rfl, rfl, rfl, rfl, trivial⟩ (X.next (C.seq ?_))))))))
 refine C.drawn (fun w1 => Sat K2 w1 [row b8 69 (encO (rkR m))]) ([2, 4, 6, 8, 11, 16], [0, 1, 3, 5, 7, 10, 12, 13, 14, 15, 18, 20]) (by kernel_rfl) ?_
 have hs := hs.drew
 refine D.evP 0 rfl (by kernel_rfl) rfl (fun _ => hs.to) (fun _ => E.move rfl) (D.evP 1 rfl (by kernel_rfl) rfl (fun _ => hs.to) (fun _ => E.fieldAddr0 0 rfl Tryz.underlying69 rfl Tryz.sz36 rfl) (D.evP 3 rfl (by kernel_rfl) rfl (fun _ => hs.to) (fun _ => E.fieldAddr0 32 rfl Tryz.underlying69 rfl Tryz.sz28 rfl) (D.evP 5 rfl (by kernel_rfl) rfl (fun _ => hs.to) (fun _ => E.fieldAddr0 48 rfl Tryz.underlying69 rfl Tryz.sz3 rfl) (D.evP 7 rfl (by kernel_rfl) rfl (fun _ => hs.to) (fun _ => E.fieldAddr0 49 rfl Tryz.underlying69 rfl Tryz.sz31 rfl) (D.evP 10 rfl (by kernel_rfl) rfl (fun _ => hs.to) (fun _ => E.fieldAddr0 66 rfl Tryz.underlying69 rfl Tryz.sz3 rfl) (D.evP 13 rfl (by kernel_rfl) rfl (fun _ => hs.to) (fun _ => E.move rfl) (D.evP 14 rfl (by kernel_rfl) rfl (fun _ => hs.to) (fun _ => E.move rfl) (D.evP 15 rfl (by kernel_rfl) rfl (fun _ => hs.to) (fun _ => E.fieldAddr0 67 rfl Tryz.underlying69 rfl Tryz.sz31 rfl) ?_))))))))
 refine D.ev 2 rfl (by kernel_rfl) rfl hs.to (fun _ hS => E.loadRowC rfl Tryz.underlying36 rfl Tryz.sz36 (by exact ⟨hS.ldP rfl, by exact encV_len _⟩)) (D.ev 4 rfl (by kernel_rfl) rfl hs.to (fun _ hS => E.loadRowC rfl Tryz.underlying28 rfl Tryz.sz28 (by exact hS.ldp)) (D.ev 6 rfl (by kernel_rfl) rfl hs.to (fun _ hS => E.load1 rfl Tryz.underlying3 rfl (by exact hS.ldc)) (D.ev 8 rfl (by kernel_rfl) rfl hs.to (fun _ hS => E.loadRowC rfl Tryz.underlying31 rfl Tryz.sz31 (by exact hS.ldp)) (D.ev 11 rfl (by kernel_rfl) rfl hs.to (fun _ hS => E.load1 rfl Tryz.underlying3 rfl (by exact hS.ldc)) (D.ev 16 rfl (by kernel_rfl) rfl hs.to (fun _ hS => E.loadRowC rfl Tryz.underlying31 rfl Tryz.sz31 (by exact hS.ldp)) (D.act 9 rfl (by kernel_rfl) ?_))))))
 refine R.call ⟨_, _, Tryz.func16, rfl, by kernel_rfl⟩ rfl rfl (to_any _ hs) ?_
 rintro _ w39 ⟨rfl, hs⟩
 refine D.back hs.to ?_
 refine D.evP 12 rfl (by kernel_rfl) rfl (fun _ => hs.to) (fun _ => E.buildG (r := encCt (rkR m) [120]) rfl Tryz.underlying57 Tryz.zr57 Tryz.ql57 (by kernel_rfl) (by kernel_rfl) ⟨⟨_, rfl, by exact vsz _⟩, ⟨_, rfl, by rfl⟩, ⟨_, rfl, by simp [Value.cells, *]⟩, ⟨_, rfl, by rfl⟩, ⟨_, rfl, by rfl⟩, trivial⟩ (by rfl)) ?_
 refine D.act 17 rfl (by kernel_rfl) ?_
 refine R.call ⟨_, _, Tryz.func16, rfl, by kernel_rfl⟩ rfl rfl (to_any _ hs) ?_
 rintro _ w317 ⟨rfl, hs⟩
 refine D.back hs.to ?_
 refine D.evP 18 rfl (by kernel_rfl) rfl (fun _ => hs.to) (fun _ => E.buildG (r := encCm (rkK m) (rkT m) (rkR m).nw) rfl Tryz.underlying60 Tryz.zr60 Tryz.ql60 (by kernel_rfl) (by kernel_rfl) ⟨⟨_, rfl, by rfl⟩, ⟨_, rfl, by rfl⟩, ⟨_, rfl, by simp [Value.cells, *]⟩, trivial⟩ (by simp [setF, fieldsOf, Value.cells, encCm, kvz, List.replicate])) ?_
 refine D.act 19 rfl (by kernel_rfl) ?_
 refine R.call ⟨_, _, Tryz.func15, rfl, by kernel_rfl⟩ rfl rfl (add_any (rkR m) (rkK m) (rkT m) [120] hI (by omega) (hs.front (F := F))) ?_
 rintro _ w319 ⟨rfl, MK3, MR3, F3, hI3, hw3, hs1⟩
 have hs := hs.back (F := F) hs1
 refine D.backT (by kernel_rfl) (D.evP 20 rfl (by kernel_rfl) rfl (np (by kernel_rfl)) (fun _ => E.assign rfl) (D.done rfl (by kernel_rfl) (X.keep [(11, _), (12, _), (13, _)] ⟨rfl, rfl, rfl, trivial⟩ (X.next (C.seq (C.region (R.ev rfl (E.move rfl) (R.ev rfl (E.move rfl) ?_))))))))
 refine R.ev rfl (E.move rfl) (R.ev rfl ((E.eql rfl rfl).isT rfl) (R.ev rfl (E.assign rfl) (R.ev rfl (E.assign rfl) (R.done (X.keep [(6, _), (7, _)] ⟨rfl, rfl, trivial⟩ (X.next (C.ret (X.ret2 rfl rfl rfl ?_))))))))
 exact ⟨K2, v2, MK3, MR3, F3, rfl, hk2, hr2, hI3, hw3, hs.to⟩
theorem build_any {ms : List Mv} {ad : Option Addr} {len cap n : Nat} [HasKc K] (hn : n ≤ 100) (hs : Sat K w Hs) [hr : Rd encMv 7 K Hs (.slice ad len cap) ms] : Ret Tryz.prog 5 #[.slice ad len cap, .int .i64 (n : Nat)] w fun r w' =>
   ∃ p, StP K Hs p (bld (ms.take n)) (fun v => .tuple #[ptr p, v, .bool true]) r w' := by
 obtain ⟨hl, _⟩ := hr.len
 refine Ret.enter (n := 41) (args := [.slice ad len cap, .int .i64 (n : Nat)]) Tryz.func5 rfl rfl ?_
 refine C.keep [(0, _), (1, _)] ⟨rfl, rfl, trivial⟩ (C.seq (C.region (R.ev rfl (E.assign rfl) (R.ev rfl (E.assign rfl) (R.ev rfl (E.assign rfl) (R.done (X.keep [(0, _), (1, _)] ⟨rfl, rfl, trivial⟩ (X.next ?_))))))))
 refine C.seq (C.region ?_)
 refine R.call ⟨_, _, Tryz.func14, rfl, by kernel_rfl⟩ rfl rfl (new_any hs) ?_
 rintro _ w1 ⟨p, F, rfl, hw, hs⟩
 refine R.ev rfl (E.assign rfl) (R.done (X.keep [(0, _), (1, _), (7, _)] ⟨rfl, rfl, rfl, trivial⟩ (X.next (C.seq (C.region (R.ev rfl (E.assign rfl) (R.done (X.keep [(0, _), (1, _), (7, _), (8, _)] ⟨rfl, rfl, rfl, rfl, trivial⟩ ?_))))))))
 refine X.next (C.seq (C.seq (C.region (R.ev rfl (E.assign rfl) (R.done (X.keep [(0, _), (1, _), (7, _), (8, _), (9, _)] ⟨rfl, rfl, rfl, rfl, rfl, trivial⟩ (X.next (C.block ?_))))))))
 refine C.loop (T := Nat × Kn × MKn × MRo × Value × Hl) [(0, _), (1, _), (7, _)] (fun (k, _, _, _, v, _) => [(8, v), (9, .int .i64 (k : Nat))]) (fun (k, K1, MK, MR, v, F1) w' => k ≤ len ∧ k ≤ n ∧ KLe K K1 ∧ KRow encO 84 K1 v (bld (ms.take k)) ∧ KInv MK MR (bld (ms.take k)) ∧ KrL p MK MR F1 ∧ Sat K1 w' (F1 :: Hs)) (fun (k, _) => len - k) ((0, K, [], [], .slice none 0 0, F)) ⟨rfl, rfl, rfl, rfl, rfl, trivial⟩ ⟨Nat.zero_le _, Nat.zero_le _, KLe.refl K, KRow.nil, KInv.nil, hw, hs⟩ ?_
 rintro ⟨k, K1, MK, MR, v, F1⟩ w2 ⟨hk, hkn, hk1, hr1, hI, hw1, hs⟩
 have o1 : OneC v := ⟨KRow.oneC' hr1⟩
 have hbl : (bld (ms.take k)).length ≤ k := by have := bld_len (ms.take k); rw [List.length_take] at this; omega
 refine C.keep [(0, _), (1, _), (7, _), (8, _), (9, _)] ⟨rfl, rfl, rfl, rfl, rfl, trivial⟩ (C.seq (C.seq (C.region (R.ev rfl (E.move rfl) (R.ev rfl (E.move rfl) (R.ev rfl (E.lenSl rfl Tryz.underlying22) (R.ev rfl (E.lss rfl rfl) (R.ev rfl (E.move rfl) ?_))))))))
 refine R.split 17 rfl (fun h17 => ?_) (fun h17 => ?_)
 refine R.gyes rfl rfl (R.ev rfl (E.move rfl) (R.gyes rfl rfl (R.ev rfl (E.move rfl) (R.gyes rfl rfl (R.ev rfl (E.lss rfl rfl) (R.ev rfl (E.pickT rfl rfl) (R.done (X.keep [(0, _), (1, _), (7, _), (8, _), (9, _), (21, _)] ⟨rfl, rfl, rfl, rfl, rfl, rfl, trivial⟩ ?_))))))))
 refine X.next ?_
 refine C.cbool rfl (fun h21 => ?_) (fun h21 => ?_)
 refine C.skip (X.next (C.seq (C.block (C.seq (C.region ?_)))))
 have hk2 : k < n := by have := of_decide_eq_true h21; omega
 have hkl : k < len := by have := of_decide_eq_true h17; omega
 obtain ⟨y, bk_y, of_y, hy, my, ly, rfl, Ay⟩ := hs.el (i := k) (ad := ad) (n := len) (c := cap) hkl
 have ay := Ay _ hs
 have hst : bld (ms.take (k + 1)) = stepL (bld (ms.take k)) y := by rw [take_snoc hy, bld_snoc]
 refine R.ev rfl (E.move rfl) (R.ev rfl (E.move rfl) (R.ev rfl (E.move rfl) (R.ev rfl (E.move rfl) ?_)))
 refine R.ev rfl (E.indexAddr (i := k) rfl rfl Tryz.underlying22 Tryz.sz66 rfl hkl) ?_
 refine R.ev rfl (E.loadRowC rfl Tryz.underlying66 rfl Tryz.sz66 (by exact ⟨by assumption, by rfl⟩)) ?_
 refine R.call ⟨_, _, Tryz.func19, rfl, by kernel_rfl⟩ rfl rfl (ladd_any y hI (by omega) hs) ?_
 rintro _ w6 ⟨K3, v3, MK3, MR3, F3, rfl, hk3, hr3, hI3, hw3, hs⟩
 have o3 : OneC v3 := ⟨KRow.oneC' hr3⟩
 refine R.ev rfl (E.move rfl) (R.ev rfl (E.extract rfl rfl) (R.ev rfl (E.extract rfl rfl) (R.ev rfl (E.assign rfl) (R.ev rfl (E.assign rfl) (R.done (X.keep [(0, _), (1, _), (7, _), (9, _), (10, _), (11, _)] ⟨rfl, rfl, rfl, rfl, rfl, rfl, trivial⟩ (X.next (C.seq ?_))))))))
 refine C.region (R.ev rfl (E.move rfl) (R.ev rfl (E.assign rfl) (R.done (X.keep [(0, _), (1, _), (7, _), (8, _), (9, _), (11, _)] ⟨rfl, rfl, rfl, rfl, rfl, rfl, trivial⟩ (X.next (C.seq (C.region (R.ev rfl (E.move rfl) ?_))))))))
 refine R.ev rfl (E.not rfl) (R.done (X.keep [(0, _), (1, _), (7, _), (8, _), (9, _), (36, _)] ⟨rfl, rfl, rfl, rfl, rfl, rfl, trivial⟩ (X.next (C.cfalse rfl (C.skip (X.blockNormal (X.next (C.region ?_))))))))
 refine R.ev rfl (E.move rfl) (R.ev rfl (E.add rfl rfl (by omega) (by omega)) (R.ev rfl (E.assign rfl) (R.done (X.keep [(0, _), (1, _), (7, _), (8, _), (9, _)] ⟨rfl, rfl, rfl, rfl, rfl, trivial⟩ ?_))))
 exact X.again (k + 1, K3, MK3, MR3, v3, F3) ⟨rfl, rfl, rfl, rfl, rfl, trivial⟩ ⟨by omega, by omega, hk1.trans hk3, by rw [hst]; exact hr3, by rw [hst]; exact hI3, hw3, hs⟩ (by show _ - _ < _ - _; omega)
 refine C.exit (X.thenExit (X.loopExit (X.blockExit (X.next (C.seq (C.region (R.ev rfl (E.move rfl) (R.ev rfl (E.move rfl) ?_))))))))
 refine R.ev rfl (E.assign rfl) (R.ev rfl (E.assign rfl) (R.ev rfl (E.assign rfl) (R.done (X.keep [(4, _), (5, _), (6, _)] ⟨rfl, rfl, rfl, trivial⟩ (X.next (C.ret (X.ret3 rfl rfl rfl rfl ?_)))))))
 have hkk : ms.take k = ms.take n := by
   (have h21 := of_decide_eq_false h21
    rw [show k = n by omega])
 exact ⟨p, K1, v, MK, MR, F1, rfl, hk1, by rw [← hkk]; exact hr1, by rw [← hkk]; exact hI, hw1, hs⟩
 refine R.gskip rfl rfl rfl (R.gskip rfl rfl rfl (R.gskip rfl rfl rfl (R.ev rfl (E.pickF rfl rfl) (R.done (X.keep [(0, _), (1, _), (7, _), (8, _), (9, _), (21, _)] ⟨rfl, rfl, rfl, rfl, rfl, rfl, trivial⟩ (X.next (C.cfalse rfl (C.exit ?_))))))))
 refine X.thenExit (X.loopExit (X.blockExit (X.next (C.seq (C.region (R.ev rfl (E.move rfl) (R.ev rfl (E.move rfl) (R.ev rfl (E.assign rfl) ?_))))))))
 refine R.ev rfl (E.assign rfl) (R.ev rfl (E.assign rfl) (R.done (X.keep [(4, _), (5, _), (6, _)] ⟨rfl, rfl, rfl, trivial⟩ (X.next (C.ret (X.ret3 rfl rfl rfl rfl ?_))))))
 have hkk : ms.take k = ms.take n := by
   (have h17 := of_decide_eq_false h17
    rw [List.take_of_length_le (show ms.length ≤ k by omega), List.take_of_length_le (show ms.length ≤ n by omega)])
 exact ⟨p, K1, v, MK, MR, F1, rfl, hk1, by rw [← hkk]; exact hr1, by rw [← hkk]; exact hI, hw1, hs⟩
theorem encK_fits (k : KY) : fitsAll (List.replicate 2 (lInt .i64) ++ List.replicate 16 (lInt .u8) ++ [lInt .i64] ++ List.replicate 32 (lInt .u8)) (encK k) = true := by
 have e : encK k = (([.int .i64 k.n, .int .i64 k.pu.h] ++ k.pu.r.1.map ub) ++ [.int .i64 k.lim]) ++ k.nx.1.map ub := by simp [encK, encP]
 rw [e]
 exact fitsAll_mk (fitsAll_mk (fitsAll_mk rfl (fitsN k.pu.r.2)) rfl) (fitsN k.nx.2)
theorem cmpChain_any {A B : List KY} {va vb : Value} (hs : Sat K w Hs) [h1 : Rd encK 51 K Hs va A] [h2 : Rd encK 51 K Hs vb B] (hn : A.length ≤ 1000000) : Ret Tryz.prog 12 #[va, vb] w fun v w' => v = .bool (decide (A = B)) ∧ Sat K w' Hs := by
 obtain ⟨ad, c, rfl, _⟩ := h1.ex
 obtain ⟨ad', c', rfl, _⟩ := h2.ex
 refine Ret.enter (n := 44) (args := [.slice ad A.length c, .slice ad' B.length c']) Tryz.func12 rfl rfl ?_
 refine C.keep [(0, _), (1, _)] ⟨rfl, rfl, trivial⟩ (C.seq (C.region (R.ev rfl (E.assign rfl) (R.done (X.keep [(0, _), (1, _)] ⟨rfl, rfl, trivial⟩ (X.next (C.seq (C.seq ?_))))))))
 refine C.region (R.ev rfl (E.move rfl) (R.ev rfl (E.lenSl rfl Tryz.underlying47) (R.ev rfl (E.move rfl) (R.ev rfl (E.lenSl rfl Tryz.underlying33) (R.ev rfl (E.neq rfl rfl) (R.done (X.keep [(0, _), (1, _), (10, _)] ⟨rfl, rfl, rfl, trivial⟩ (X.next ?_))))))))
 refine C.cdec rfl (fun h10 => ?_) (fun h10 => ?_)
 refine C.seq (C.region (R.ev rfl (E.assign rfl) (R.done (X.keep [(4, _)] ⟨rfl, trivial⟩ (X.next (C.ret (X.thenRet (X.ret1 rfl rfl ?_))))))))
 exact ⟨by rw [decide_eq_false]; intro e; rw [e] at h10; omega, hs⟩
 refine C.skip (X.next (C.seq (C.seq (C.region (R.ev rfl (E.assign rfl) (R.done (X.keep [(0, _), (1, _), (5, _)] ⟨rfl, rfl, rfl, trivial⟩ (X.next ?_))))))))
 refine C.block ?_
 refine C.loop  [(0, _), (1, _)] (fun k => [(5, .int .i64 (k : Nat))]) (fun k w' => k ≤ A.length ∧ Sat K w' Hs ∧ A.take k = B.take k) (fun k => A.length - k) (0) ⟨rfl, rfl, rfl, trivial⟩ ⟨Nat.zero_le _, hs, rfl⟩ ?_
 rintro k w1 ⟨hk, hs, htk⟩
 refine C.keep [(0, _), (1, _), (5, _)] ⟨rfl, rfl, rfl, trivial⟩ (C.seq (C.seq (C.region (R.ev rfl (E.move rfl) (R.ev rfl (E.move rfl) (R.ev rfl (E.lenSl rfl Tryz.underlying47) (R.ev rfl (E.lss rfl rfl) (R.done ?_))))))))
 refine X.keep [(0, _), (1, _), (5, _), (14, _)] ⟨rfl, rfl, rfl, rfl, trivial⟩ (X.next ?_)
 refine C.cdec rfl (fun h14 => ?_) (fun h14 => ?_)
 obtain ⟨y, bk_y, of_y, hy, my, ly, rfl, Ay⟩ := hs.el (i := k) (ad := ad) (n := A.length) (c := c) (by omega)
 have ay := Ay _ hs
 obtain ⟨z, bk_z, of_z, hz, mz, lz, rfl, Az⟩ := hs.el (i := k) (ad := ad') (n := B.length) (c := c') (by omega)
 have az := Az _ hs
 have q1 := encP_len z.pu
 have q2 := encV_len z.nx
 refine C.skip (X.next (C.seq (C.block (C.seq ?_))))
 refine C.drawn (SatS hs) ([3, 8, 13, 19, 24], [0, 1, 2, 4, 5, 6, 7, 9, 10, 11, 12, 15, 16, 17, 18, 20, 21, 22, 23, 25, 26]) (by kernel_rfl) ?_
 have hs := hs.drew
 refine D.evP 0 rfl (by kernel_rfl) rfl (fun _ => hs.to) (fun _ => E.move rfl) (D.evP 1 rfl (by kernel_rfl) rfl (fun _ => hs.to) (fun _ => E.move rfl) (D.evP 2 rfl (by kernel_rfl) rfl (fun _ => hs.to) (fun _ => E.indexAddr rfl rfl Tryz.underlying47 Tryz.sz39 rfl (by omega)) (D.evP 4 rfl (by kernel_rfl) rfl (fun _ => hs.to) (fun _ => E.move rfl) (D.evP 5 rfl (by kernel_rfl) rfl (fun _ => hs.to) (fun _ => E.move rfl) (D.evP 6 rfl (by kernel_rfl) rfl (fun _ => hs.to) (fun _ => E.indexAddr rfl rfl Tryz.underlying33 Tryz.sz72 rfl (by omega)) (D.evP 7 rfl (by kernel_rfl) rfl (fun _ => hs.to) (fun _ => E.fieldAddrN 0 rfl Tryz.underlying72 rfl Tryz.sz3 rfl) (D.evP 9 rfl (by kernel_rfl) rfl (fun _ => hs.to) (fun _ => E.move rfl) (D.evP 10 rfl (by kernel_rfl) rfl (fun _ => hs.to) (fun _ => E.move rfl) ?_))))))))
 refine D.evP 11 rfl (by kernel_rfl) rfl (fun _ => hs.to) (fun _ => E.indexAddr rfl rfl Tryz.underlying33 Tryz.sz72 rfl (by omega)) (D.evP 12 rfl (by kernel_rfl) rfl (fun _ => hs.to) (fun _ => E.fieldAddrN 1 rfl Tryz.underlying72 rfl Tryz.sz31 rfl) (D.evP 15 rfl (by kernel_rfl) rfl (fun _ => hs.to) (fun _ => E.move rfl) (D.evP 16 rfl (by kernel_rfl) rfl (fun _ => hs.to) (fun _ => E.move rfl) (D.evP 17 rfl (by kernel_rfl) rfl (fun _ => hs.to) (fun _ => E.indexAddr rfl rfl Tryz.underlying33 Tryz.sz72 rfl (by omega)) (D.evP 18 rfl (by kernel_rfl) rfl (fun _ => hs.to) (fun _ => E.fieldAddrN 18 rfl Tryz.underlying72 rfl Tryz.sz3 rfl) (D.evP 20 rfl (by kernel_rfl) rfl (fun _ => hs.to) (fun _ => E.move rfl) (D.evP 21 rfl (by kernel_rfl) rfl (fun _ => hs.to) (fun _ => E.move rfl) (D.evP 22 rfl (by kernel_rfl) rfl (fun _ => hs.to) (fun _ => E.indexAddr rfl rfl Tryz.underlying33 Tryz.sz72 rfl (by omega)) ?_))))))))
 refine D.evP 23 rfl (by kernel_rfl) rfl (fun _ => hs.to) (fun _ => E.fieldAddrN 19 rfl Tryz.underlying72 rfl Tryz.sz36 rfl) (D.ev 3 rfl (by kernel_rfl) rfl hs.to (fun _ hS => E.loadRow rfl Tryz.underlying39 rfl Tryz.sz39 (Ay _ hS) ly) ?_)
 refine D.ev 8 rfl (by kernel_rfl) rfl hs.to (fun _ hS => E.load1 rfl Tryz.underlying3 rfl (At.cellC (Az _ hS) (i := 0))) ?_
 refine D.ev 13 rfl (by kernel_rfl) rfl hs.to (fun _ hS => E.loadRowC rfl Tryz.underlying31 rfl Tryz.sz31 (At.partC (Az _ hS))) ?_
 refine D.ev 19 rfl (by kernel_rfl) rfl hs.to (fun _ hS => E.load1 rfl Tryz.underlying3 rfl (At.cellC (Az _ hS) (i := 18))) ?_
 refine D.ev 24 rfl (by kernel_rfl) rfl hs.to (fun _ hS => E.loadRowC rfl Tryz.underlying36 rfl Tryz.sz36 (At.partC (Az _ hS))) (D.act 14 rfl (by kernel_rfl) ?_)
 refine R.call ⟨_, _, Tryz.func16, rfl, by kernel_rfl⟩ rfl rfl (to_any z.pu hs) ?_
 rintro _ w614 ⟨rfl, hs⟩
 refine D.back hs.to ?_
 refine D.evP 25 rfl (by kernel_rfl) rfl (fun _ => hs.to) (fun _ => E.buildG (r := encK z) rfl Tryz.underlying39 Tryz.zr39 Tryz.ql39 (by kernel_rfl) (by kernel_rfl) ⟨⟨_, rfl, by rfl⟩, ⟨_, rfl, by simp [Value.cells, *]⟩, ⟨_, rfl, by rfl⟩, ⟨_, rfl, by exact vsz _⟩, trivial⟩ (by simp [setF, fieldsOf, Value.cells, encK])) ?_
 refine D.evP 26 rfl (by kernel_rfl) rfl (fun _ => hs.to) (fun _ => (E.neqAgg 10 rfl rfl Tryz.lv39 rfl Tryz.underlying39 rfl Tryz.gd39 (encK_fits y) (encK_fits z)).isB (c := decide (y ≠ z)) (by rw [encK_eq]; simp)) ?_
 refine D.done rfl (by kernel_rfl) (X.keep [(0, _), (1, _), (5, _), (43, _)] ⟨rfl, rfl, rfl, rfl, trivial⟩ (X.next ?_))
 refine C.cdec rfl (fun h43 => ?_) (fun h43 => ?_)
 refine C.seq (C.region (R.ev rfl (E.assign rfl) (R.done (X.keep [(4, _)] ⟨rfl, trivial⟩ (X.next (C.ret (X.blockRet (X.thenRet ?_))))))))
 refine X.loopRet (X.blockRet (X.thenRet (X.ret1 rfl rfl ?_)))
 exact ⟨by rw [decide_eq_false]; intro e; rw [e, hz] at hy; exact h43 (by simpa using hy.symm), hs⟩
 refine C.skip (X.blockNormal (X.next (C.region (R.ev rfl (E.move rfl) (R.ev rfl (E.add rfl rfl (by omega) (by omega)) (R.ev rfl (E.assign rfl) (R.done (X.keep [(0, _), (1, _), (5, _)] ⟨rfl, rfl, rfl, trivial⟩ ?_))))))))
 exact X.again (k + 1) ⟨rfl, rfl, rfl, trivial⟩ ⟨by omega, hs, by rw [take_snoc hy, take_snoc hz, htk, Decidable.not_not.1 h43]⟩ (by omega)
 refine C.exit (X.thenExit (X.loopExit (X.blockExit (X.next (C.seq (C.region (R.ev rfl (E.assign rfl) (R.done ?_))))))))
 refine X.keep [(4, _)] ⟨rfl, trivial⟩ (X.next (C.ret (X.ret1 rfl rfl ?_)))
 exact ⟨by rw [decide_eq_true]; rw [← List.take_length (l := A), ← List.take_length (l := B), show B.length = A.length by omega]; rwa [show k = A.length by omega] at htk, hs⟩
end Go.Proofs.YtbkgibgomohdjaaGreatDoor
namespace Go.Proofs.YtbkgibgomohdjaaGreatDoor
open Go.Eng Go.RowKit Go.Sort
variable {K : Kn} {Hs Rs : List Hl} {F : Hl} {w : World} {v : Value} {L : List RO} {p : Nat} {MK : MKn} {MR : MRo}
def ida (b : UInt8) : Vec 32 := ⟨b :: List.replicate 31 0, rfl⟩
def kA : Vec 16 := ofP (pubk 2)
def kr1 : RO := ⟨ida 1, kA, 0, pubk 2, 7, pubk 3⟩
def kr2 : RO := ⟨ida 2, kA, 0, pubk 2, 5, pubk 4⟩
def kc1 : List KY := [⟨0, pubk 2, 7, ida 1⟩, ⟨1, pubk 3, -1, kvz⟩]
def kc2 : List KY := [⟨0, pubk 2, 5, ida 2⟩, ⟨1, pubk 4, -1, kvz⟩]
theorem ke1 : addE [] kr1 5 1 = 0 := addE_0 rfl (by decide) rfl (by decide) (fun g => g.2 rfl) rfl
theorem ke2 : addE [kr1] kr2 5 1 = 0 := addE_0 rfl (by decide) rfl (by decide) (fun g => g.2 rfl) (by decide)
theorem kl1 : addL [] kr1 5 1 = [kr1] := by rw [addL, if_pos ke1]; rfl
theorem kl2 : addL [kr1] kr2 5 1 = [kr1, kr2] := by rw [addL, if_pos ke2]; rfl
theorem atS_kA (r : RO) (h : r.au = kA) (n : Int) : atS kA n r = decide (r.n = n) := by simp [atS, h]
theorem slot_kA (M : List RO) (h : ∀ r ∈ M, r.au = kA) (n : Int) : slotL M kA n = M.filter fun r => decide (r.n = n) := by
 unfold slotL
 exact List.filter_congr fun r hr => atS_kA r (h r hr) n
theorem kch1 : ChA [kr1] kA kc1 := by
 have hs : ∀ n, slotL [kr1] kA n = [kr1].filter fun r => decide (r.n = n) := slot_kA _ (by simp [kr1])
 refine .inr ⟨pubk 2, ?_, .cons (e := kr1) ?_ (.last ?_)⟩
 · rw [firsts, hs]; exact Least.one ltP_swo (pubk 2)
 · rw [ends, hs]; exact Least.one ltO_swo kr1
 · rw [ends, hs]; rfl
theorem kch2 : ChA [kr1, kr2] kA kc2 := by
 have hs : ∀ n, slotL [kr1, kr2] kA n = [kr1, kr2].filter fun r => decide (r.n = n) := slot_kA _ (by simp [kr1, kr2])
 refine .inr ⟨pubk 2, ?_, .cons (e := kr2) ?_ (.last ?_)⟩
 · rw [firsts, hs]; exact Least.snoc (y := pubk 2) ltP_swo (Least.one ltP_swo (pubk 2))
 · rw [ends, hs]; exact Least.snoc (y := kr2) ltO_swo (Least.one ltO_swo kr1)
 · rw [ends, hs]; rfl
theorem known_any [HasKc K] (hs : Sat K w Hs) : Ret Tryz.prog 4 #[] w fun v w' => v = .bool true ∧ Sat K w' Hs := by
 have q2 := encP_len (pubk 2)
 have q3 := encP_len (pubk 3)
 have q4 := encP_len (pubk 4)
 have qa := encV_len kA
 have qz := encV_len kvz
 have qa2 := kA.2
 have qi1 : ((ida 1).1.map ub).length = 32 := rfl
 refine Ret.enter (n := 138) (args := []) Tryz.func4 rfl rfl ?_
 refine C.keep [] trivial (C.seq (C.region (R.ev rfl (E.assign rfl) (R.done (X.keep [] trivial (X.next (C.seq (C.region ?_))))))))
 refine R.call ⟨_, _, Tryz.func14, rfl, by kernel_rfl⟩ rfl rfl (new_any hs) ?_
 rintro _ w1 ⟨p, F, rfl, hw, hs⟩
 refine R.ev rfl (E.assign rfl) (R.done (X.keep [(1, _)] ⟨rfl, trivial⟩ (X.next (C.seq (C.seq (C.region (R.ev rfl (E.move rfl) (R.ev rfl (E.eqlNilF rfl rfl Tryz.underlying24) ?_))))))))
 refine R.done (X.keep [(1, _), (14, _)] ⟨rfl, rfl, trivial⟩ (X.next (C.cfalse rfl (C.skip (X.next (C.seq (C.region ?_)))))))
 refine R.call ⟨_, _, Tryz.func7, rfl, by kernel_rfl⟩ rfl rfl (public_any 2 hs) ?_
 rintro _ w40 ⟨rfl, hs⟩
 refine R.call ⟨_, _, Tryz.func7, rfl, by kernel_rfl⟩ rfl rfl (public_any 3 hs) ?_
 rintro _ w41 ⟨rfl, hs⟩
 refine R.call ⟨_, _, Tryz.func7, rfl, by kernel_rfl⟩ rfl rfl (public_any 4 hs) ?_
 rintro _ w42 ⟨rfl, hs⟩
 refine R.sallocA hs Tryz.zr31 rfl ?_
 intro b2 w2 hs
 refine R.sallocA hs Tryz.zr31 rfl ?_
 intro b3 w3 hs
 refine R.sallocA hs Tryz.zr31 rfl ?_
 intro b4 w4 hs
 refine R.cstoreAll hs rfl rfl Tryz.sz31 (by rfl) (by rfl) (by exact Enc.one _) ?_
 intro w4_6 hs
 try simp only [List.set_cons_zero, List.set_cons_succ] at hs
 refine R.cstoreAll hs rfl rfl Tryz.sz31 (by rfl) (by rfl) (by exact Enc.one _) ?_
 intro w4_7 hs
 try simp only [List.set_cons_zero, List.set_cons_succ] at hs
 refine R.cstoreAll hs rfl rfl Tryz.sz31 (by rfl) (by rfl) (by exact Enc.one _) ?_
 intro w4_8 hs
 try simp only [List.set_cons_zero, List.set_cons_succ] at hs
 refine R.done (X.keep [(1, _), (2, _), (3, _), (4, _)] ⟨rfl, rfl, rfl, rfl, trivial⟩ (X.next (C.seq (C.region (R.ev rfl (E.loadRowC rfl Tryz.underlying31 rfl Tryz.sz31 (by exact ⟨hs.ldA, by rfl⟩)) ?_)))))
 refine R.call ⟨_, _, Tryz.func6, rfl, by kernel_rfl⟩ rfl rfl (rOf_any (pubk 2) hs) ?_
 rintro _ w51 ⟨rfl, hs⟩
 have hs : Sat K w51 (row b4 31 (encP (pubk 4)) :: row b3 31 (encP (pubk 3)) :: row b2 31 (encP (pubk 2)) :: F :: Hs) := hs
 refine R.sallocA hs Tryz.zr28 rfl ?_
 intro b5 w5 hs
 refine R.cstoreAll hs rfl rfl Tryz.sz28 rfl qa (ub_all _) ?_
 intro w53 hs
 have hs : Sat K w53 (row b5 28 (kA.1.map ub) :: row b4 31 (encP (pubk 4)) :: row b3 31 (encP (pubk 3)) :: row b2 31 (encP (pubk 2)) :: F :: Hs) := hs
 refine R.done (X.keep [(1, _), (2, _), (3, _), (4, _), (5, _)] ⟨rfl, rfl, rfl, rfl, rfl, trivial⟩ (X.next (C.seq ?_)))
 refine C.drawn (fun w1 => Sat K w1 [row b5 28 (kA.1.map ub), row b3 31 (encP (pubk 3)), row b2 31 (encP (pubk 2))]) ([2, 3, 6], [0, 1, 5, 8, 10]) (by kernel_rfl) ?_
 have hs := hs.drew
 refine D.evP 0 rfl (by kernel_rfl) rfl (fun _ => hs.to) (fun _ => E.move rfl) ?_
 refine D.evP 1 rfl (by kernel_rfl) rfl (fun _ => hs.to) (fun _ => (E.buildOne (i := 0) rfl Tryz.underlying37 Tryz.zr37 Tryz.sz5 (by decide) rfl).as (u := .agg ((ida 1).1.map ub).toArray) rfl) ?_
 refine D.ev 2 rfl (by kernel_rfl) rfl hs.to (fun _ hS => E.loadRowC rfl Tryz.underlying28 rfl Tryz.sz28 (by exact ⟨hS.ldA, by rfl⟩)) (D.ev 3 rfl (by kernel_rfl) rfl hs.to (fun _ hS => E.loadRowC rfl Tryz.underlying31 rfl Tryz.sz31 (by exact ⟨hS.ldA, by rfl⟩)) (D.ev 6 rfl (by kernel_rfl) rfl hs.to (fun _ hS => E.loadRowC rfl Tryz.underlying31 rfl Tryz.sz31 (by exact ⟨hS.ldA, by rfl⟩)) (D.act 4 rfl (by kernel_rfl) ?_)))
 refine R.call ⟨_, _, Tryz.func16, rfl, by kernel_rfl⟩ rfl rfl (to_any (pubk 2) hs) ?_
 rintro _ w64 ⟨rfl, hs⟩
 refine D.back hs.to ?_
 refine D.evP 5 rfl (by kernel_rfl) rfl (fun _ => hs.to) (fun _ => E.buildG (r := encCt kr1 []) rfl Tryz.underlying57 Tryz.zr57 Tryz.ql57 (by kernel_rfl) (by kernel_rfl) ⟨⟨_, rfl, by rfl⟩, ⟨_, rfl, by rfl⟩, ⟨_, rfl, by rfl⟩, trivial⟩ (by rfl)) ?_
 refine D.act 7 rfl (by kernel_rfl) ?_
 refine R.call ⟨_, _, Tryz.func16, rfl, by kernel_rfl⟩ rfl rfl (to_any (pubk 3) hs) ?_
 rintro _ w67 ⟨rfl, hs⟩
 refine D.back hs.to ?_
 refine D.evP 8 rfl (by kernel_rfl) rfl (fun _ => hs.to) (fun _ => E.buildG (r := encCm 5 1 (pubk 3)) rfl Tryz.underlying60 Tryz.zr60 Tryz.ql60 (by kernel_rfl) (by kernel_rfl) ⟨⟨_, rfl, by rfl⟩, ⟨_, rfl, by rfl⟩, ⟨_, rfl, by rfl⟩, trivial⟩ (by rfl)) ?_
 refine D.act 9 rfl (by kernel_rfl) ?_
 refine R.call ⟨_, _, Tryz.func15, rfl, by kernel_rfl⟩ rfl rfl (add_any kr1 5 1 [] KInv.nil (by decide) (hs.front (F := F))) ?_
 rintro _ w69 ⟨rfl, MK1, MR1, F1, hI1, hw1, hs1⟩
 have hs := hs.back (F := F) hs1
 rw [kl1] at hI1
 rw [ke1]
 refine D.backT (by kernel_rfl) (D.evP 10 rfl (by kernel_rfl) rfl (np (by kernel_rfl)) (fun _ => E.assign rfl) (D.done rfl (by kernel_rfl) (X.keep [(1, _), (2, _), (3, _), (4, _), (5, _), (6, _)] ⟨rfl, rfl, rfl, rfl, rfl, rfl, trivial⟩ (X.next (C.seq (C.region (R.ev rfl (E.move rfl) (R.ev rfl (E.loadRowC rfl Tryz.underlying28 rfl Tryz.sz28 (by exact ⟨hs.ldA, by rfl⟩)) ?_))))))))
 refine R.call ⟨_, _, Tryz.func13, rfl, by kernel_rfl⟩ rfl rfl (chain_any kA hI1 (by decide) hs) ?_
 rintro v32 w32 ⟨c, F32, r32, hc, hs⟩
 obtain rfl : c = kc1 := ChA.det hI1.ok.inj (fun _ _ => Iff.rfl) hc kch1
 obtain ⟨ad32, cap32, rfl, _⟩ := r32.val
 refine R.ev rfl (E.assign rfl) (R.done (X.keep [(1, _), (2, _), (3, _), (4, _), (5, _), (6, _), (7, _)] ⟨rfl, rfl, rfl, rfl, rfl, rfl, rfl, trivial⟩ (X.next (C.seq (C.seq ?_)))))
 refine C.drawn (SatS hs) ([10, 11, 20, 21], [0, 1, 2, 3, 4, 5, 6, 7, 8, 9, 13, 14, 15, 16, 17, 18, 19, 23, 24, 25]) (by kernel_rfl) ?_
 have hs := hs.drew
 obtain ⟨y0, bk0, of0, hy0, _, ly0, rfl, Ay0⟩ := hs.el (i := 0) (ad := ad32) (n := kc1.length) (c := cap32) (by decide)
 obtain rfl : (⟨0, pubk 2, 7, ida 1⟩ : KY) = y0 := Option.some.inj hy0
 have Ay1 := hs.elAt (b := bk0) (off := of0) (n := kc1.length) cap32 (i := 1) (y := ⟨1, pubk 3, -1, kvz⟩) rfl
 refine D.evP 0 rfl (by kernel_rfl) rfl (fun _ => hs.to) (fun _ => E.move rfl) (D.evP 1 rfl (by kernel_rfl) rfl (fun _ => hs.to) (fun _ => (E.neq rfl rfl).isF (by decide)) (D.evP 2 rfl (by kernel_rfl) rfl (fun _ => hs.to) (fun _ => E.move rfl) (D.evPG 3 rfl (by kernel_rfl) rfl rfl rfl (fun _ => hs.to) (fun _ => E.move rfl) (D.evPG 4 rfl (by kernel_rfl) rfl rfl rfl (fun _ => hs.to) (fun _ => E.lenSl rfl Tryz.underlying47) (D.evPG 5 rfl (by kernel_rfl) rfl rfl rfl (fun _ => hs.to) (fun _ => (E.neq rfl rfl).isF (by decide)) (D.evP 6 rfl (by kernel_rfl) rfl (fun _ => hs.to) (fun _ => E.pickF rfl rfl) (D.evP 7 rfl (by kernel_rfl) rfl (fun _ => hs.to) (fun _ => E.move rfl) (D.evPG 8 rfl (by kernel_rfl) rfl rfl rfl (fun _ => hs.to) (fun _ => E.move rfl) ?_))))))))
 refine D.evPG 9 rfl (by kernel_rfl) rfl rfl rfl (fun _ => hs.to) (fun _ => E.indexAddr (i := 0) rfl rfl Tryz.underlying47 Tryz.sz39 rfl (by decide)) ?_
 refine D.evPG 13 rfl (by kernel_rfl) rfl rfl rfl (fun _ => hs.to) (fun _ => (E.buildOne (i := 0) rfl Tryz.underlying37 Tryz.zr37 Tryz.sz5 (by decide) rfl).as (u := .agg ((ida 1).1.map ub).toArray) rfl) ?_
 refine D.evG 10 rfl (by kernel_rfl) rfl rfl rfl hs.to (fun _ hS => E.loadRow rfl Tryz.underlying39 rfl Tryz.sz39 (Ay0 _ hS) (encK_len _)) (D.evG 11 rfl (by kernel_rfl) rfl rfl rfl hs.to (fun _ hS => E.loadRowC rfl Tryz.underlying31 rfl Tryz.sz31 (by exact ⟨hS.ldA, by rfl⟩)) (D.act 12 rfl (by kernel_rfl) (R.gyes rfl rfl ?_)))
 refine R.call ⟨_, _, Tryz.func16, rfl, by kernel_rfl⟩ rfl rfl (to_any (pubk 2) hs) ?_
 rintro _ w812 ⟨rfl, hs⟩
 refine D.back hs.to ?_
 refine D.evPG 14 rfl (by kernel_rfl) rfl rfl rfl (fun _ => hs.to) (fun _ => E.buildG (r := encK ⟨0, pubk 2, 7, ida 1⟩) rfl Tryz.underlying39 Tryz.zr39 Tryz.ql39 (by kernel_rfl) (by kernel_rfl) ⟨⟨_, rfl, by rfl⟩, ⟨_, rfl, by rfl⟩, ⟨_, rfl, by rfl⟩, trivial⟩ (by rfl)) ?_
 refine D.evPG 15 rfl (by kernel_rfl) rfl rfl rfl (fun _ => hs.to) (fun _ => (E.neqAgg 10 rfl rfl Tryz.lv39 rfl Tryz.underlying39 rfl Tryz.gd39 (encK_fits ⟨0, pubk 2, 7, ida 1⟩) (encK_fits ⟨0, pubk 2, 7, ida 1⟩)).isB (c := false) (by rw [encK_eq]; simp)) ?_
 refine D.evP 16 rfl (by kernel_rfl) rfl (fun _ => hs.to) (fun _ => E.pickF rfl rfl) (D.evP 17 rfl (by kernel_rfl) rfl (fun _ => hs.to) (fun _ => E.move rfl) (D.evPG 18 rfl (by kernel_rfl) rfl rfl rfl (fun _ => hs.to) (fun _ => E.move rfl) ?_))
 refine D.evPG 19 rfl (by kernel_rfl) rfl rfl rfl (fun _ => hs.to) (fun _ => E.indexAddr (i := 1) rfl rfl Tryz.underlying47 Tryz.sz39 rfl (by decide)) ?_
 refine D.evG 20 rfl (by kernel_rfl) rfl rfl rfl hs.to (fun _ hS => E.loadRow rfl Tryz.underlying39 rfl Tryz.sz39 (Ay1 _ hS) (encK_len _)) (D.evG 21 rfl (by kernel_rfl) rfl rfl rfl hs.to (fun _ hS => E.loadRowC rfl Tryz.underlying31 rfl Tryz.sz31 (by exact ⟨hS.ldA, by rfl⟩)) (D.act 22 rfl (by kernel_rfl) (R.gyes rfl rfl ?_)))
 refine R.call ⟨_, _, Tryz.func16, rfl, by kernel_rfl⟩ rfl rfl (to_any (pubk 3) hs) ?_
 rintro _ w822 ⟨rfl, hs⟩
 refine D.back hs.to ?_
 refine D.evPG 23 rfl (by kernel_rfl) rfl rfl rfl (fun _ => hs.to) (fun _ => E.buildG (r := encK ⟨1, pubk 3, -1, kvz⟩) rfl Tryz.underlying39 Tryz.zr39 Tryz.ql39 (by kernel_rfl) (by kernel_rfl) ⟨⟨_, rfl, by rfl⟩, ⟨_, rfl, by rfl⟩, ⟨_, rfl, by rfl⟩, trivial⟩ (by rfl)) ?_
 refine D.evPG 24 rfl (by kernel_rfl) rfl rfl rfl (fun _ => hs.to) (fun _ => (E.neqAgg 10 rfl rfl Tryz.lv39 rfl Tryz.underlying39 rfl Tryz.gd39 (encK_fits ⟨1, pubk 3, -1, kvz⟩) (encK_fits ⟨1, pubk 3, -1, kvz⟩)).isB (c := false) (by rw [encK_eq]; simp)) ?_
 refine D.evP 25 rfl (by kernel_rfl) rfl (fun _ => hs.to) (fun _ => E.pickF rfl rfl) (D.done rfl (by kernel_rfl) (X.keep [(1, _), (2, _), (4, _), (5, _), (58, _)] ⟨rfl, rfl, rfl, rfl, rfl, trivial⟩ (X.next (C.cfalse rfl (C.skip (X.next (C.seq ?_)))))))
 refine C.drawn (SatS hs) ([1, 2, 9, 10, 18, 19, 27, 28, 36, 37], [0, 4, 6, 7, 8, 12, 14, 15, 16, 17, 21, 23, 24, 25, 26, 30, 32, 33, 34, 35, 39, 41, 42, 43]) (by kernel_rfl) ?_
 have hs := hs.drew
 refine D.evP 0 rfl (by kernel_rfl) rfl (fun _ => hs.to) (fun _ => E.move rfl) ?_
 refine D.evP 4 rfl (by kernel_rfl) rfl (fun _ => hs.to) (fun _ => (E.buildA rfl Tryz.underlying37 Tryz.zr37 Tryz.sz5 rfl).as (u := .agg (encV kvz).toArray) (by rfl)) ?_
 refine D.ev 1 rfl (by kernel_rfl) rfl hs.to (fun _ hS => E.loadRowC rfl Tryz.underlying28 rfl Tryz.sz28 (by exact ⟨hS.ldA, by rfl⟩)) (D.ev 2 rfl (by kernel_rfl) rfl hs.to (fun _ hS => E.loadRowC rfl Tryz.underlying31 rfl Tryz.sz31 (by exact ⟨hS.ldA, by rfl⟩)) (D.act 3 rfl (by kernel_rfl) ?_))
 refine R.call ⟨_, _, Tryz.func16, rfl, by kernel_rfl⟩ rfl rfl (to_any (pubk 2) hs) ?_
 rintro _ w103 ⟨rfl, hs⟩
 refine D.back hs.to (D.act 5 rfl (by kernel_rfl) ?_)
 refine R.call ⟨_, _, Tryz.func17, rfl, by kernel_rfl⟩ rfl rfl (judge_any kA 0 (pubk 2) 3 kvz hI1 (by decide) hs) ?_
 rintro _ w105 ⟨c1, rfl, hc1, hs⟩
 obtain rfl : c1 = kc1 := ChA.det hI1.ok.inj (fun _ _ => Iff.rfl) hc1 kch1
 rw [show judge kc1 kA 0 (pubk 2) 3 kvz = 0 from (judge_in (m := 0) rfl rfl).trans (by decide)]
 refine D.back hs.to (D.evP 6 rfl (by kernel_rfl) rfl (fun _ => hs.to) (fun _ => (E.eql rfl rfl).isT rfl) (D.evP 7 rfl (by kernel_rfl) rfl (fun _ => hs.to) (fun _ => E.move rfl) (D.evPG 8 rfl (by kernel_rfl) rfl rfl rfl (fun _ => hs.to) (fun _ => E.move rfl) ?_)))
 refine D.evPG 12 rfl (by kernel_rfl) rfl rfl rfl (fun _ => hs.to) (fun _ => (E.buildOne (i := 0) rfl Tryz.underlying37 Tryz.zr37 Tryz.sz5 (by decide) rfl).as (u := .agg ((ida 1).1.map ub).toArray) rfl) ?_
 refine D.evG 9 rfl (by kernel_rfl) rfl rfl rfl hs.to (fun _ hS => E.loadRowC rfl Tryz.underlying28 rfl Tryz.sz28 (by exact ⟨hS.ldA, by rfl⟩)) (D.evG 10 rfl (by kernel_rfl) rfl rfl rfl hs.to (fun _ hS => E.loadRowC rfl Tryz.underlying31 rfl Tryz.sz31 (by exact ⟨hS.ldA, by rfl⟩)) (D.act 11 rfl (by kernel_rfl) (R.gyes rfl rfl ?_)))
 refine R.call ⟨_, _, Tryz.func16, rfl, by kernel_rfl⟩ rfl rfl (to_any (pubk 2) hs) ?_
 rintro _ w1011 ⟨rfl, hs⟩
 refine D.back hs.to (D.act 13 rfl (by kernel_rfl) (R.gyes rfl rfl ?_))
 refine R.call ⟨_, _, Tryz.func17, rfl, by kernel_rfl⟩ rfl rfl (judge_any kA 0 (pubk 2) 7 (ida 1) hI1 (by decide) hs) ?_
 rintro _ w1013 ⟨c1, rfl, hc1, hs⟩
 obtain rfl : c1 = kc1 := ChA.det hI1.ok.inj (fun _ _ => Iff.rfl) hc1 kch1
 rw [show judge kc1 kA 0 (pubk 2) 7 (ida 1) = 0 from (judge_in (m := 0) rfl rfl).trans (by decide)]
 refine D.back hs.to (D.evPG 14 rfl (by kernel_rfl) rfl rfl rfl (fun _ => hs.to) (fun _ => (E.eql rfl rfl).isT rfl) (D.evP 15 rfl (by kernel_rfl) rfl (fun _ => hs.to) (fun _ => E.pickT rfl rfl) (D.evP 16 rfl (by kernel_rfl) rfl (fun _ => hs.to) (fun _ => E.move rfl) (D.evPG 17 rfl (by kernel_rfl) rfl rfl rfl (fun _ => hs.to) (fun _ => E.move rfl) ?_))))
 refine D.evPG 21 rfl (by kernel_rfl) rfl rfl rfl (fun _ => hs.to) (fun _ => (E.buildA rfl Tryz.underlying37 Tryz.zr37 Tryz.sz5 rfl).as (u := .agg (encV kvz).toArray) (by rfl)) ?_
 refine D.evG 18 rfl (by kernel_rfl) rfl rfl rfl hs.to (fun _ hS => E.loadRowC rfl Tryz.underlying28 rfl Tryz.sz28 (by exact ⟨hS.ldA, by rfl⟩)) (D.evG 19 rfl (by kernel_rfl) rfl rfl rfl hs.to (fun _ hS => E.loadRowC rfl Tryz.underlying31 rfl Tryz.sz31 (by exact ⟨hS.ldA, by rfl⟩)) (D.act 20 rfl (by kernel_rfl) (R.gyes rfl rfl ?_)))
 refine R.call ⟨_, _, Tryz.func16, rfl, by kernel_rfl⟩ rfl rfl (to_any (pubk 2) hs) ?_
 rintro _ w1020 ⟨rfl, hs⟩
 refine D.back hs.to (D.act 22 rfl (by kernel_rfl) (R.gyes rfl rfl ?_))
 refine R.call ⟨_, _, Tryz.func17, rfl, by kernel_rfl⟩ rfl rfl (judge_any kA 0 (pubk 2) 7 kvz hI1 (by decide) hs) ?_
 rintro _ w1022 ⟨c1, rfl, hc1, hs⟩
 obtain rfl : c1 = kc1 := ChA.det hI1.ok.inj (fun _ _ => Iff.rfl) hc1 kch1
 rw [show judge kc1 kA 0 (pubk 2) 7 kvz = 3 from (judge_in (m := 0) rfl rfl).trans (by decide)]
 refine D.back hs.to (D.evPG 23 rfl (by kernel_rfl) rfl rfl rfl (fun _ => hs.to) (fun _ => (E.eql rfl rfl).isT rfl) (D.evP 24 rfl (by kernel_rfl) rfl (fun _ => hs.to) (fun _ => E.pickT rfl rfl) (D.evP 25 rfl (by kernel_rfl) rfl (fun _ => hs.to) (fun _ => E.move rfl) (D.evPG 26 rfl (by kernel_rfl) rfl rfl rfl (fun _ => hs.to) (fun _ => E.move rfl) ?_))))
 refine D.evPG 30 rfl (by kernel_rfl) rfl rfl rfl (fun _ => hs.to) (fun _ => (E.buildA rfl Tryz.underlying37 Tryz.zr37 Tryz.sz5 rfl).as (u := .agg (encV kvz).toArray) (by rfl)) ?_
 refine D.evG 27 rfl (by kernel_rfl) rfl rfl rfl hs.to (fun _ hS => E.loadRowC rfl Tryz.underlying28 rfl Tryz.sz28 (by exact ⟨hS.ldA, by rfl⟩)) (D.evG 28 rfl (by kernel_rfl) rfl rfl rfl hs.to (fun _ hS => E.loadRowC rfl Tryz.underlying31 rfl Tryz.sz31 (by exact ⟨hS.ldA, by rfl⟩)) (D.act 29 rfl (by kernel_rfl) (R.gyes rfl rfl ?_)))
 refine R.call ⟨_, _, Tryz.func16, rfl, by kernel_rfl⟩ rfl rfl (to_any (pubk 2) hs) ?_
 rintro _ w1029 ⟨rfl, hs⟩
 refine D.back hs.to (D.act 31 rfl (by kernel_rfl) (R.gyes rfl rfl ?_))
 refine R.call ⟨_, _, Tryz.func17, rfl, by kernel_rfl⟩ rfl rfl (judge_any kA 1 (pubk 2) 0 kvz hI1 (by decide) hs) ?_
 rintro _ w1031 ⟨c1, rfl, hc1, hs⟩
 obtain rfl : c1 = kc1 := ChA.det hI1.ok.inj (fun _ _ => Iff.rfl) hc1 kch1
 rw [show judge kc1 kA 1 (pubk 2) 0 kvz = 2 from (judge_in (m := 1) rfl rfl).trans (by decide)]
 refine D.back hs.to (D.evPG 32 rfl (by kernel_rfl) rfl rfl rfl (fun _ => hs.to) (fun _ => (E.eql rfl rfl).isT rfl) (D.evP 33 rfl (by kernel_rfl) rfl (fun _ => hs.to) (fun _ => E.pickT rfl rfl) (D.evP 34 rfl (by kernel_rfl) rfl (fun _ => hs.to) (fun _ => E.move rfl) (D.evPG 35 rfl (by kernel_rfl) rfl rfl rfl (fun _ => hs.to) (fun _ => E.move rfl) ?_))))
 refine D.evPG 39 rfl (by kernel_rfl) rfl rfl rfl (fun _ => hs.to) (fun _ => (E.buildA rfl Tryz.underlying37 Tryz.zr37 Tryz.sz5 rfl).as (u := .agg (encV kvz).toArray) (by rfl)) ?_
 refine D.evG 36 rfl (by kernel_rfl) rfl rfl rfl hs.to (fun _ hS => E.loadRowC rfl Tryz.underlying28 rfl Tryz.sz28 (by exact ⟨hS.ldA, by rfl⟩)) (D.evG 37 rfl (by kernel_rfl) rfl rfl rfl hs.to (fun _ hS => E.loadRowC rfl Tryz.underlying31 rfl Tryz.sz31 (by exact ⟨hS.ldA, by rfl⟩)) (D.act 38 rfl (by kernel_rfl) (R.gyes rfl rfl ?_)))
 refine R.call ⟨_, _, Tryz.func16, rfl, by kernel_rfl⟩ rfl rfl (to_any (pubk 2) hs) ?_
 rintro _ w1038 ⟨rfl, hs⟩
 refine D.back hs.to (D.act 40 rfl (by kernel_rfl) (R.gyes rfl rfl ?_))
 refine R.call ⟨_, _, Tryz.func17, rfl, by kernel_rfl⟩ rfl rfl (judge_any kA 2 (pubk 2) 0 kvz hI1 (by decide) hs) ?_
 rintro _ w1040 ⟨c1, rfl, hc1, hs⟩
 obtain rfl : c1 = kc1 := ChA.det hI1.ok.inj (fun _ _ => Iff.rfl) hc1 kch1
 rw [show judge kc1 kA 2 (pubk 2) 0 kvz = 1 from (judge_out (by decide)).trans (by decide)]
 refine D.backT (by kernel_rfl) (D.evPG 41 rfl (by kernel_rfl) rfl rfl rfl (np (by kernel_rfl)) (fun _ => (E.eql rfl rfl).isT rfl) (D.evP 42 rfl (by kernel_rfl) rfl (np (by kernel_rfl)) (fun _ => E.pickT rfl rfl) (D.evP 43 rfl (by kernel_rfl) rfl (np (by kernel_rfl)) (fun _ => E.assign rfl) (D.done rfl (by kernel_rfl) (X.keep [(1, _), (2, _), (4, _), (5, _), (8, _)] ⟨rfl, rfl, rfl, rfl, rfl, trivial⟩ (X.next (C.seq ?_)))))))
 refine C.drawn (fun w1 => Sat K w1 [row b5 28 (kA.1.map ub), row b4 31 (encP (pubk 4)), row b2 31 (encP (pubk 2))]) ([2, 3, 6], [0, 1, 5, 8, 10]) (by kernel_rfl) ?_
 have hs := hs.drew
 refine D.evP 0 rfl (by kernel_rfl) rfl (fun _ => hs.to) (fun _ => E.move rfl) ?_
 refine D.evP 1 rfl (by kernel_rfl) rfl (fun _ => hs.to) (fun _ => (E.buildOne (i := 0) rfl Tryz.underlying37 Tryz.zr37 Tryz.sz5 (by decide) rfl).as (u := .agg ((ida 2).1.map ub).toArray) rfl) ?_
 refine D.ev 2 rfl (by kernel_rfl) rfl hs.to (fun _ hS => E.loadRowC rfl Tryz.underlying28 rfl Tryz.sz28 (by exact ⟨hS.ldA, by rfl⟩)) (D.ev 3 rfl (by kernel_rfl) rfl hs.to (fun _ hS => E.loadRowC rfl Tryz.underlying31 rfl Tryz.sz31 (by exact ⟨hS.ldA, by rfl⟩)) (D.ev 6 rfl (by kernel_rfl) rfl hs.to (fun _ hS => E.loadRowC rfl Tryz.underlying31 rfl Tryz.sz31 (by exact ⟨hS.ldA, by rfl⟩)) (D.act 4 rfl (by kernel_rfl) ?_)))
 refine R.call ⟨_, _, Tryz.func16, rfl, by kernel_rfl⟩ rfl rfl (to_any (pubk 2) hs) ?_
 rintro _ w114 ⟨rfl, hs⟩
 refine D.back hs.to ?_
 refine D.evP 5 rfl (by kernel_rfl) rfl (fun _ => hs.to) (fun _ => E.buildG (r := encCt kr2 []) rfl Tryz.underlying57 Tryz.zr57 Tryz.ql57 (by kernel_rfl) (by kernel_rfl) ⟨⟨_, rfl, by rfl⟩, ⟨_, rfl, by rfl⟩, ⟨_, rfl, by rfl⟩, trivial⟩ (by rfl)) ?_
 refine D.act 7 rfl (by kernel_rfl) ?_
 refine R.call ⟨_, _, Tryz.func16, rfl, by kernel_rfl⟩ rfl rfl (to_any (pubk 4) hs) ?_
 rintro _ w117 ⟨rfl, hs⟩
 refine D.back hs.to ?_
 refine D.evP 8 rfl (by kernel_rfl) rfl (fun _ => hs.to) (fun _ => E.buildG (r := encCm 5 1 (pubk 4)) rfl Tryz.underlying60 Tryz.zr60 Tryz.ql60 (by kernel_rfl) (by kernel_rfl) ⟨⟨_, rfl, by rfl⟩, ⟨_, rfl, by rfl⟩, ⟨_, rfl, by rfl⟩, trivial⟩ (by rfl)) ?_
 refine D.act 9 rfl (by kernel_rfl) ?_
 refine R.call ⟨_, _, Tryz.func15, rfl, by kernel_rfl⟩ rfl rfl (add_any kr2 5 1 [] hI1 (by decide) (hs.front (F := F1))) ?_
 rintro _ w119 ⟨rfl, MK2, MR2, F2, hI2, hw2, hs1⟩
 have hs := hs.back (F := F1) hs1
 rw [kl2] at hI2
 rw [ke2]
 refine D.backT (by kernel_rfl) (D.evP 10 rfl (by kernel_rfl) rfl (np (by kernel_rfl)) (fun _ => E.assign rfl) (D.done rfl (by kernel_rfl) (X.keep [(1, _), (4, _), (5, _), (8, _), (9, _)] ⟨rfl, rfl, rfl, rfl, rfl, trivial⟩ (X.next (C.seq (C.region (R.ev rfl (E.move rfl) (R.ev rfl (E.loadRowC rfl Tryz.underlying28 rfl Tryz.sz28 (by exact ⟨hs.ldA, by rfl⟩)) ?_))))))))
 refine R.call ⟨_, _, Tryz.func9, rfl, by kernel_rfl⟩ rfl rfl (key_any kA 1 hI2 (by decide) hs) ?_
 rintro _ w122 ⟨c2, rfl, hc2, hs⟩
 obtain rfl : c2 = kc2 := ChA.det hI2.ok.inj (fun _ _ => Iff.rfl) hc2 kch2
 rw [show kyAt kc2 1 = ⟨1, pubk 4, -1, kvz⟩ from rfl, show inC kc2 1 = true from rfl]
 refine R.ev rfl (E.move rfl) (R.ev rfl (E.extract rfl rfl) (R.ev rfl (E.extract rfl rfl) ?_))
 refine R.sallocA hs Tryz.zr39 rfl ?_
 intro b10 w10 hs
 refine R.cstoreAll hs rfl rfl Tryz.sz39 (by rfl) (by rfl) (by exact Enc.one _) ?_
 intro w12_7 hs
 try simp only [List.set_cons_zero, List.set_cons_succ] at hs
 refine R.ev rfl (E.assign rfl) (R.done (X.keep [(1, _), (4, _), (8, _), (9, _), (10, _), (11, _)] ⟨rfl, rfl, rfl, rfl, rfl, rfl, trivial⟩ (X.next (C.seq ?_))))
 refine C.drawn (SatS hs) ([10, 11], [0, 1, 2, 3, 4, 5, 6, 7, 8, 9, 13, 14, 15, 16, 18, 19, 20]) (by kernel_rfl) ?_
 have hs := hs.drew
 refine D.evP 0 rfl (by kernel_rfl) rfl (fun _ => hs.to) (fun _ => E.move rfl) (D.evP 1 rfl (by kernel_rfl) rfl (fun _ => hs.to) (fun _ => E.move rfl) (D.evPG 2 rfl (by kernel_rfl) rfl rfl rfl (fun _ => hs.to) (fun _ => E.move rfl) (D.evPG 3 rfl (by kernel_rfl) rfl rfl rfl (fun _ => hs.to) (fun _ => (E.eql rfl rfl).isT rfl) (D.evP 4 rfl (by kernel_rfl) rfl (fun _ => hs.to) (fun _ => E.pickT rfl rfl) (D.evP 5 rfl (by kernel_rfl) rfl (fun _ => hs.to) (fun _ => E.move rfl) (D.evPG 6 rfl (by kernel_rfl) rfl rfl rfl (fun _ => hs.to) (fun _ => E.move rfl) (D.evP 7 rfl (by kernel_rfl) rfl (fun _ => hs.to) (fun _ => E.pickT rfl rfl) (D.evP 8 rfl (by kernel_rfl) rfl (fun _ => hs.to) (fun _ => E.move rfl) ?_))))))))
 refine D.evPG 9 rfl (by kernel_rfl) rfl rfl rfl (fun _ => hs.to) (fun _ => E.fieldAddr0 1 rfl Tryz.underlying39 rfl Tryz.sz35 rfl) (D.evG 10 rfl (by kernel_rfl) rfl rfl rfl hs.to (fun _ hS => E.loadRowC rfl Tryz.underlying35 rfl Tryz.sz35 (by exact ⟨hS.ldM rfl rfl, by rfl⟩)) (D.evG 11 rfl (by kernel_rfl) rfl rfl rfl hs.to (fun _ hS => E.loadRowC rfl Tryz.underlying31 rfl Tryz.sz31 (by exact ⟨hS.ldA, by rfl⟩)) (D.act 12 rfl (by kernel_rfl) (R.gyes rfl rfl ?_))))
 refine R.call ⟨_, _, Tryz.func16, rfl, by kernel_rfl⟩ rfl rfl (to_any (pubk 4) hs) ?_
 rintro _ w1312 ⟨rfl, hs⟩
 refine D.back hs.to ?_
 refine D.evPG 13 rfl (by kernel_rfl) rfl rfl rfl (fun _ => hs.to) (fun _ => (E.eqlAgg 10 rfl rfl Tryz.lv35 rfl Tryz.underlying35 rfl Tryz.gd35 (encP_fits (pubk 4)) (encP_fits (pubk 4))).isB (c := true) (by rw [encP_eq]; simp)) ?_
 refine D.evP 14 rfl (by kernel_rfl) rfl (fun _ => hs.to) (fun _ => E.pickT rfl rfl) (D.evP 15 rfl (by kernel_rfl) rfl (fun _ => hs.to) (fun _ => E.move rfl) (D.evPG 16 rfl (by kernel_rfl) rfl rfl rfl (fun _ => hs.to) (fun _ => E.move rfl) (D.act 17 rfl (by kernel_rfl) (R.gyes rfl rfl ?_))))
 refine R.call ⟨_, _, Tryz.func18, rfl, by kernel_rfl⟩ rfl rfl (len_any hI2 hs) ?_
 rintro _ w1317 ⟨rfl, hs⟩
 refine D.backT (by kernel_rfl) (D.evPG 18 rfl (by kernel_rfl) rfl rfl rfl (np (by kernel_rfl)) (fun _ => (E.eql rfl rfl).isT (by decide)) (D.evP 19 rfl (by kernel_rfl) rfl (np (by kernel_rfl)) (fun _ => E.pickT rfl rfl) (D.evP 20 rfl (by kernel_rfl) rfl (np (by kernel_rfl)) (fun _ => E.assign rfl) (D.done rfl (by kernel_rfl) (X.keep [(0, _)] ⟨rfl, trivial⟩ (X.next (C.ret (X.ret1 rfl rfl ?_))))))))
 exact ⟨rfl, hs.to⟩
end Go.Proofs.YtbkgibgomohdjaaGreatDoor
