/-
  Chapter 19: add, build, chain, chains.
-/
import Derived.Test.YtbkgibgomohdjaaDoorKrK
namespace Go.Proofs.YtbkgibgomohdjaaDoor
open Go.Eng Go.RowKit Go.Sort
variable {K : Kn} {Hs Rs : List Hl} {F : Hl} {w : World} {v : Value} {L : List RO} {p : Nat} {MK : MKn} {MR : MRo}
def StP (K : Kn) (Rs : List Hl) (p : Nat) (L : List RO) (f : Value → Value) (r : Value) (w' : World) : Prop := ∃ K' v' MK' MR' F', r = f v' ∧ KLe K K' ∧ KRow encO 84 K' v' L ∧ KInv MK' MR' L ∧ KrL p MK' MR' F' ∧ Sat K' w' (F' :: Rs)
theorem ladd_any (m : Mv) [HasKc K] (hI : KInv MK MR L) (hlen : L.length ≤ 1000) (hs : Sat K w (F :: Rs)) [hr : KRow encO 84 K v L] [hw : KrL p MK MR F] : Ret Tryd.prog 20 #[ptr p, v, .agg (encMv m).toArray] w fun r w' => StP K Rs p (stepL L m) (fun v => .tuple #[v, .bool true]) r w' := by
  have o1 : OneC v := ⟨KRow.oneC' hr⟩
  have q1 := encO_len (rkR m)
  have q2 := encP_len (rkR m).pu
  have q3 := encP_len (rkR m).nw
  have q4 := encV_len (rkR m).au
  have q5 := encV_len kvz
  have q6 := (rkR m).au.2
  refine Ret.enter (n := 52) (args := [ptr p, v, .agg (encMv m).toArray]) Tryd.func20 rfl rfl ?_
  refine C.keep [(0, _), (1, _), (2, _)] ⟨rfl, rfl, rfl, trivial⟩ ?_
  refine C.seq ?_
  refine C.region ?_
  refine R.sboxA hs rfl rfl ?_
  intro b5 w5 hs
  refine R.ev rfl (E.assign rfl) ?_
  refine R.ev rfl (E.assign rfl) ?_
  refine R.done ?_
  refine X.keep [(0, _), (1, _), (5, _)] ⟨rfl, rfl, rfl, trivial⟩ ?_
  refine X.next ?_
  refine C.seq ?_
  refine C.region ?_
  refine R.ev rfl (E.loadRowC rfl Tryd.underlying41 rfl Tryd.sz41 (by exact ⟨hs.ldA, by rfl⟩)) ?_
  refine R.call ⟨_, _, Tryd.func19, rfl, by kernel_rfl⟩ rfl rfl (rekey_any m hs) ?_
  rintro _ w1 ⟨rfl, hs⟩
  refine R.ev rfl (E.move rfl) ?_
  refine R.ev rfl (E.extract rfl rfl) ?_
  refine R.ev rfl (E.extract rfl rfl) ?_
  refine R.ev rfl (E.extract rfl rfl) ?_
  refine R.sallocA hs Tryd.zr45 rfl ?_
  intro b8 w8 hs
  refine R.cstoreAll hs rfl rfl Tryd.sz45 (by rfl) (by assumption) (by exact Enc.one _) ?_
  intro w1_7 hs
  try simp only [List.set_cons_zero, List.set_cons_succ] at hs
  refine R.ev rfl (E.assign rfl) ?_
  refine R.ev rfl (E.assign rfl) ?_
  refine R.done ?_
  refine X.keep [(0, _), (1, _), (8, _), (9, _), (10, _)] ⟨rfl, rfl, rfl, rfl, rfl, trivial⟩ ?_
  refine X.next ?_
  refine C.seq ?_
  refine C.region ?_
  refine R.ev rfl (E.move rfl) ?_
  refine R.ev rfl (E.loadRowC rfl Tryd.underlying45 rfl Tryd.sz45 (by exact ⟨hs.ldA, by assumption⟩)) ?_
  refine R.ev rfl (E.move rfl) ?_
  refine R.ev rfl (E.move rfl) ?_
  refine R.call ⟨_, _, Tryd.func41, rfl, by kernel_rfl⟩ rfl rfl (radd_any (rkR m) (rkK m) (rkT m) hs (by omega)) ?_
  rintro _ w2 ⟨K2, v2, rfl, hk2, hr2, hs⟩
  have o2 : OneC v2 := ⟨KRow.oneC' hr2⟩
  refine R.ev rfl (E.move rfl) ?_
  refine R.ev rfl (E.extract rfl rfl) ?_
  refine R.ev rfl (E.extract rfl rfl) ?_
  refine R.ev rfl (E.assign rfl) ?_
  refine R.ev rfl (E.assign rfl) ?_
  refine R.done ?_
  refine X.keep [(0, _), (8, _), (9, _), (10, _), (11, _), (12, _)] ⟨rfl, rfl, rfl, rfl, rfl, rfl, trivial⟩ ?_
  refine X.next ?_
  refine C.seq ?_
  refine C.drawn (fun w1 => Sat K2 w1 [row b8 45 (encO (rkR m))]) ([2, 4, 6, 8, 11, 16], [0, 1, 3, 5, 7, 10, 12, 13, 14, 15, 18, 20]) (by kernel_rfl) ?_
  have hs := hs.drew
  refine D.evP 0 rfl (by kernel_rfl) rfl (fun _ => hs.to) (fun _ => E.move rfl) ?_
  refine D.evP 1 rfl (by kernel_rfl) rfl (fun _ => hs.to) (fun _ => E.fieldAddr0 0 rfl Tryd.underlying45 rfl Tryd.sz34 rfl) ?_
  refine D.evP 3 rfl (by kernel_rfl) rfl (fun _ => hs.to) (fun _ => E.fieldAddr0 32 rfl Tryd.underlying45 rfl Tryd.sz29 rfl) ?_
  refine D.evP 5 rfl (by kernel_rfl) rfl (fun _ => hs.to) (fun _ => E.fieldAddr0 48 rfl Tryd.underlying45 rfl Tryd.sz3 rfl) ?_
  refine D.evP 7 rfl (by kernel_rfl) rfl (fun _ => hs.to) (fun _ => E.fieldAddr0 49 rfl Tryd.underlying45 rfl Tryd.sz32 rfl) ?_
  refine D.evP 10 rfl (by kernel_rfl) rfl (fun _ => hs.to) (fun _ => E.fieldAddr0 66 rfl Tryd.underlying45 rfl Tryd.sz3 rfl) ?_
  refine D.evP 13 rfl (by kernel_rfl) rfl (fun _ => hs.to) (fun _ => E.move rfl) ?_
  refine D.evP 14 rfl (by kernel_rfl) rfl (fun _ => hs.to) (fun _ => E.move rfl) ?_
  refine D.evP 15 rfl (by kernel_rfl) rfl (fun _ => hs.to) (fun _ => E.fieldAddr0 67 rfl Tryd.underlying45 rfl Tryd.sz32 rfl) ?_
  refine D.ev 2 rfl (by kernel_rfl) rfl hs.to (fun _ hS => E.loadRowC rfl Tryd.underlying34 rfl Tryd.sz34 (by exact ⟨hS.ldP rfl, by exact encV_len _⟩)) ?_
  refine D.ev 4 rfl (by kernel_rfl) rfl hs.to (fun _ hS => E.loadRowC rfl Tryd.underlying29 rfl Tryd.sz29 (by exact hS.ldp)) ?_
  refine D.ev 6 rfl (by kernel_rfl) rfl hs.to (fun _ hS => E.load1 rfl Tryd.underlying3 rfl (by exact hS.ldc)) ?_
  refine D.ev 8 rfl (by kernel_rfl) rfl hs.to (fun _ hS => E.loadRowC rfl Tryd.underlying32 rfl Tryd.sz32 (by exact hS.ldp)) ?_
  refine D.ev 11 rfl (by kernel_rfl) rfl hs.to (fun _ hS => E.load1 rfl Tryd.underlying3 rfl (by exact hS.ldc)) ?_
  refine D.ev 16 rfl (by kernel_rfl) rfl hs.to (fun _ hS => E.loadRowC rfl Tryd.underlying32 rfl Tryd.sz32 (by exact hS.ldp)) ?_
  refine D.act 9 rfl (by kernel_rfl) ?_
  refine R.call ⟨_, _, Tryd.func16, rfl, by kernel_rfl⟩ rfl rfl (to_any _ hs) ?_
  rintro _ w39 ⟨rfl, hs⟩
  refine D.back hs.to ?_
  refine D.evP 12 rfl (by kernel_rfl) rfl (fun _ => hs.to) (fun _ => E.buildG (r := encCt (rkR m) [120]) rfl Tryd.underlying87 Tryd.zr87 Tryd.ql87 (by kernel_rfl) (by kernel_rfl) ⟨⟨_, rfl, by exact vsz _⟩, ⟨_, rfl, by rfl⟩, ⟨_, rfl, by simp [Value.cells, *]⟩, ⟨_, rfl, by rfl⟩, ⟨_, rfl, by rfl⟩, trivial⟩ (by rfl)) ?_
  refine D.act 17 rfl (by kernel_rfl) ?_
  refine R.call ⟨_, _, Tryd.func16, rfl, by kernel_rfl⟩ rfl rfl (to_any _ hs) ?_
  rintro _ w317 ⟨rfl, hs⟩
  refine D.back hs.to ?_
  refine D.evP 18 rfl (by kernel_rfl) rfl (fun _ => hs.to) (fun _ => E.buildG (r := encCm (rkK m) (rkT m) (rkR m).nw) rfl Tryd.underlying89 Tryd.zr89 Tryd.ql89 (by kernel_rfl) (by kernel_rfl) ⟨⟨_, rfl, by rfl⟩, ⟨_, rfl, by rfl⟩, ⟨_, rfl, by simp [Value.cells, *]⟩, trivial⟩ (by simp [setF, fieldsOf, Value.cells, encCm, kvz, List.replicate])) ?_
  refine D.act 19 rfl (by kernel_rfl) ?_
  refine R.call ⟨_, _, Tryd.func34, rfl, by kernel_rfl⟩ rfl rfl (add_any (rkR m) (rkK m) (rkT m) [120] hI (by omega) (hs.front (F := F))) ?_
  rintro _ w319 ⟨rfl, MK3, MR3, F3, hI3, hw3, hs1⟩
  have hs := hs.back (F := F) hs1
  refine D.backT (by kernel_rfl) ?_
  refine D.evP 20 rfl (by kernel_rfl) rfl (np (by kernel_rfl)) (fun _ => E.assign rfl) ?_
  refine D.done rfl (by kernel_rfl) ?_
  refine X.keep [(11, _), (12, _), (13, _)] ⟨rfl, rfl, rfl, trivial⟩ ?_
  refine X.next ?_
  refine C.seq ?_
  refine C.region ?_
  refine R.ev rfl (E.move rfl) ?_
  refine R.ev rfl (E.move rfl) ?_
  refine R.ev rfl (E.move rfl) ?_
  refine R.ev rfl ((E.eql rfl rfl).isT rfl) ?_
  refine R.ev rfl (E.assign rfl) ?_
  refine R.ev rfl (E.assign rfl) ?_
  refine R.done ?_
  refine X.keep [(6, _), (7, _)] ⟨rfl, rfl, trivial⟩ ?_
  refine X.next ?_
  refine C.ret ?_
  refine X.ret2 rfl rfl rfl ?_
  exact ⟨K2, v2, MK3, MR3, F3, rfl, hk2, hr2, hI3, hw3, hs.to⟩
theorem build_any {ms : List Mv} {ad : Option Addr} {len cap n : Nat} [HasKc K] (hn : n ≤ 100) (hs : Sat K w Hs) [hr : Rd encMv 7 K Hs (.slice ad len cap) ms] : Ret Tryd.prog 12 #[.slice ad len cap, .int .i64 (n : Nat)] w fun r w' =>
    ∃ p, StP K Hs p (bld (ms.take n)) (fun v => .tuple #[ptr p, v, .bool true]) r w' := by
  obtain ⟨hl, _⟩ := hr.len
  refine Ret.enter (n := 41) (args := [.slice ad len cap, .int .i64 (n : Nat)]) Tryd.func12 rfl rfl ?_
  refine C.keep [(0, _), (1, _)] ⟨rfl, rfl, trivial⟩ ?_
  refine C.seq ?_
  refine C.region ?_
  refine R.ev rfl (E.assign rfl) ?_
  refine R.ev rfl (E.assign rfl) ?_
  refine R.ev rfl (E.assign rfl) ?_
  refine R.done ?_
  refine X.keep [(0, _), (1, _)] ⟨rfl, rfl, trivial⟩ ?_
  refine X.next ?_
  refine C.seq ?_
  refine C.region ?_
  refine R.call ⟨_, _, Tryd.func23, rfl, by kernel_rfl⟩ rfl rfl (new_any hs) ?_
  rintro _ w1 ⟨p, F, rfl, hw, hs⟩
  refine R.ev rfl (E.assign rfl) ?_
  refine R.done ?_
  refine X.keep [(0, _), (1, _), (7, _)] ⟨rfl, rfl, rfl, trivial⟩ ?_
  refine X.next ?_
  refine C.seq ?_
  refine C.region ?_
  refine R.ev rfl (E.assign rfl) ?_
  refine R.done ?_
  refine X.keep [(0, _), (1, _), (7, _), (8, _)] ⟨rfl, rfl, rfl, rfl, trivial⟩ ?_
  refine X.next ?_
  refine C.seq ?_
  refine C.seq ?_
  refine C.region ?_
  refine R.ev rfl (E.assign rfl) ?_
  refine R.done ?_
  refine X.keep [(0, _), (1, _), (7, _), (8, _), (9, _)] ⟨rfl, rfl, rfl, rfl, rfl, trivial⟩ ?_
  refine X.next ?_
  refine C.block ?_
  refine C.loop (T := Nat × Kn × MKn × MRo × Value × Hl) [(0, _), (1, _), (7, _)] (fun (k, _, _, _, v, _) => [(8, v), (9, .int .i64 (k : Nat))]) (fun (k, K1, MK, MR, v, F1) w' => k ≤ len ∧ k ≤ n ∧ KLe K K1 ∧ KRow encO 84 K1 v (bld (ms.take k)) ∧ KInv MK MR (bld (ms.take k)) ∧ KrL p MK MR F1 ∧ Sat K1 w' (F1 :: Hs)) (fun (k, _) => len - k) ((0, K, [], [], .slice none 0 0, F)) ⟨rfl, rfl, rfl, rfl, rfl, trivial⟩ ⟨Nat.zero_le _, Nat.zero_le _, KLe.refl K, KRow.nil, KInv.nil, hw, hs⟩ ?_
  rintro ⟨k, K1, MK, MR, v, F1⟩ w2 ⟨hk, hkn, hk1, hr1, hI, hw1, hs⟩
  have o1 : OneC v := ⟨KRow.oneC' hr1⟩
  have hbl : (bld (ms.take k)).length ≤ k := by have := bld_len (ms.take k); rw [List.length_take] at this; omega
  refine C.keep [(0, _), (1, _), (7, _), (8, _), (9, _)] ⟨rfl, rfl, rfl, rfl, rfl, trivial⟩ ?_
  refine C.seq ?_
  refine C.seq ?_
  refine C.region ?_
  refine R.ev rfl (E.move rfl) ?_
  refine R.ev rfl (E.move rfl) ?_
  refine R.ev rfl (E.lenSl rfl Tryd.underlying22) ?_
  refine R.ev rfl (E.lss rfl rfl) ?_
  refine R.ev rfl (E.move rfl) ?_
  refine R.split 17 rfl (fun h17 => ?_) (fun h17 => ?_)
  refine R.gyes rfl rfl ?_
  refine R.ev rfl (E.move rfl) ?_
  refine R.gyes rfl rfl ?_
  refine R.ev rfl (E.move rfl) ?_
  refine R.gyes rfl rfl ?_
  refine R.ev rfl (E.lss rfl rfl) ?_
  refine R.ev rfl (E.pickT rfl rfl) ?_
  refine R.done ?_
  refine X.keep [(0, _), (1, _), (7, _), (8, _), (9, _), (21, _)] ⟨rfl, rfl, rfl, rfl, rfl, rfl, trivial⟩ ?_
  refine X.next ?_
  refine C.cbool rfl (fun h21 => ?_) (fun h21 => ?_)
  refine C.skip ?_
  refine X.next ?_
  refine C.seq ?_
  refine C.block ?_
  refine C.seq ?_
  refine C.region ?_
  have hk2 : k < n := by have := of_decide_eq_true h21; omega
  have hkl : k < len := by have := of_decide_eq_true h17; omega
  obtain ⟨y, bk_y, of_y, hy, my, ly, rfl, Ay⟩ := hs.el (i := k) (ad := ad) (n := len) (c := cap) hkl
  have ay := Ay _ hs
  have hst : bld (ms.take (k + 1)) = stepL (bld (ms.take k)) y := by rw [take_snoc hy, bld_snoc]
  refine R.ev rfl (E.move rfl) ?_
  refine R.ev rfl (E.move rfl) ?_
  refine R.ev rfl (E.move rfl) ?_
  refine R.ev rfl (E.move rfl) ?_
  refine R.ev rfl (E.indexAddr (i := k) rfl rfl Tryd.underlying22 Tryd.sz41 rfl hkl) ?_
  refine R.ev rfl (E.loadRowC rfl Tryd.underlying41 rfl Tryd.sz41 (by exact ⟨by assumption, by rfl⟩)) ?_
  refine R.call ⟨_, _, Tryd.func20, rfl, by kernel_rfl⟩ rfl rfl (ladd_any y hI (by omega) hs) ?_
  rintro _ w6 ⟨K3, v3, MK3, MR3, F3, rfl, hk3, hr3, hI3, hw3, hs⟩
  have o3 : OneC v3 := ⟨KRow.oneC' hr3⟩
  refine R.ev rfl (E.move rfl) ?_
  refine R.ev rfl (E.extract rfl rfl) ?_
  refine R.ev rfl (E.extract rfl rfl) ?_
  refine R.ev rfl (E.assign rfl) ?_
  refine R.ev rfl (E.assign rfl) ?_
  refine R.done ?_
  refine X.keep [(0, _), (1, _), (7, _), (9, _), (10, _), (11, _)] ⟨rfl, rfl, rfl, rfl, rfl, rfl, trivial⟩ ?_
  refine X.next ?_
  refine C.seq ?_
  refine C.region ?_
  refine R.ev rfl (E.move rfl) ?_
  refine R.ev rfl (E.assign rfl) ?_
  refine R.done ?_
  refine X.keep [(0, _), (1, _), (7, _), (8, _), (9, _), (11, _)] ⟨rfl, rfl, rfl, rfl, rfl, rfl, trivial⟩ ?_
  refine X.next ?_
  refine C.seq ?_
  refine C.region ?_
  refine R.ev rfl (E.move rfl) ?_
  refine R.ev rfl (E.not rfl) ?_
  refine R.done ?_
  refine X.keep [(0, _), (1, _), (7, _), (8, _), (9, _), (36, _)] ⟨rfl, rfl, rfl, rfl, rfl, rfl, trivial⟩ ?_
  refine X.next ?_
  refine C.cfalse rfl ?_
  refine C.skip ?_
  refine X.blockNormal ?_
  refine X.next ?_
  refine C.region ?_
  refine R.ev rfl (E.move rfl) ?_
  refine R.ev rfl (E.add rfl rfl (by omega) (by omega)) ?_
  refine R.ev rfl (E.assign rfl) ?_
  refine R.done ?_
  refine X.keep [(0, _), (1, _), (7, _), (8, _), (9, _)] ⟨rfl, rfl, rfl, rfl, rfl, trivial⟩ ?_
  exact X.again (k + 1, K3, MK3, MR3, v3, F3) ⟨rfl, rfl, rfl, rfl, rfl, trivial⟩ ⟨by omega, by omega, hk1.trans hk3, by rw [hst]; exact hr3, by rw [hst]; exact hI3, hw3, hs⟩ (by show _ - _ < _ - _; omega)
  refine C.exit ?_
  refine X.thenExit ?_
  refine X.loopExit ?_
  refine X.blockExit ?_
  refine X.next ?_
  refine C.seq ?_
  refine C.region ?_
  refine R.ev rfl (E.move rfl) ?_
  refine R.ev rfl (E.move rfl) ?_
  refine R.ev rfl (E.assign rfl) ?_
  refine R.ev rfl (E.assign rfl) ?_
  refine R.ev rfl (E.assign rfl) ?_
  refine R.done ?_
  refine X.keep [(4, _), (5, _), (6, _)] ⟨rfl, rfl, rfl, trivial⟩ ?_
  refine X.next ?_
  refine C.ret ?_
  refine X.ret3 rfl rfl rfl rfl ?_
  have hkk : ms.take k = ms.take n := by
    first
      | (have h17 := of_decide_eq_false h17
         rw [List.take_of_length_le (show ms.length ≤ k by omega), List.take_of_length_le (show ms.length ≤ n by omega)])
      | (have h21 := of_decide_eq_false h21
         rw [show k = n by omega])
  exact ⟨p, K1, v, MK, MR, F1, rfl, hk1, by rw [← hkk]; exact hr1, by rw [← hkk]; exact hI, hw1, hs⟩
  refine R.gskip rfl rfl rfl ?_
  refine R.gskip rfl rfl rfl ?_
  refine R.gskip rfl rfl rfl ?_
  refine R.ev rfl (E.pickF rfl rfl) ?_
  refine R.done ?_
  refine X.keep [(0, _), (1, _), (7, _), (8, _), (9, _), (21, _)] ⟨rfl, rfl, rfl, rfl, rfl, rfl, trivial⟩ ?_
  refine X.next ?_
  refine C.cfalse rfl ?_
  refine C.exit ?_
  refine X.thenExit ?_
  refine X.loopExit ?_
  refine X.blockExit ?_
  refine X.next ?_
  refine C.seq ?_
  refine C.region ?_
  refine R.ev rfl (E.move rfl) ?_
  refine R.ev rfl (E.move rfl) ?_
  refine R.ev rfl (E.assign rfl) ?_
  refine R.ev rfl (E.assign rfl) ?_
  refine R.ev rfl (E.assign rfl) ?_
  refine R.done ?_
  refine X.keep [(4, _), (5, _), (6, _)] ⟨rfl, rfl, rfl, trivial⟩ ?_
  refine X.next ?_
  refine C.ret ?_
  refine X.ret3 rfl rfl rfl rfl ?_
  have hkk : ms.take k = ms.take n := by
    first
      | (have h17 := of_decide_eq_false h17
         rw [List.take_of_length_le (show ms.length ≤ k by omega), List.take_of_length_le (show ms.length ≤ n by omega)])
      | (have h21 := of_decide_eq_false h21
         rw [show k = n by omega])
  exact ⟨p, K1, v, MK, MR, F1, rfl, hk1, by rw [← hkk]; exact hr1, by rw [← hkk]; exact hI, hw1, hs⟩
theorem encK_fits (k : KY) : fitsAll (List.replicate 2 (lInt .i64) ++ List.replicate 16 (lInt .u8) ++ [lInt .i64] ++ List.replicate 32 (lInt .u8)) (encK k) = true := by
  have e : encK k = (([.int .i64 k.n, .int .i64 k.pu.h] ++ k.pu.r.1.map ub) ++ [.int .i64 k.lim]) ++ k.nx.1.map ub := by simp [encK, encP]
  rw [e]
  exact fitsAll_mk (fitsAll_mk (fitsAll_mk rfl (fitsN k.pu.r.2)) rfl) (fitsN k.nx.2)
theorem cmpChain_any {A B : List KY} {va vb : Value} (hs : Sat K w Hs) [h1 : Rd encK 51 K Hs va A] [h2 : Rd encK 51 K Hs vb B] (hn : A.length ≤ 1000000) : Ret Tryd.prog 21 #[va, vb] w fun v w' => v = .bool (decide (A = B)) ∧ Sat K w' Hs := by
  obtain ⟨ad, c, rfl, _⟩ := h1.ex
  obtain ⟨ad', c', rfl, _⟩ := h2.ex
  refine Ret.enter (n := 44) (args := [.slice ad A.length c, .slice ad' B.length c']) Tryd.func21 rfl rfl ?_
  refine C.keep [(0, _), (1, _)] ⟨rfl, rfl, trivial⟩ ?_
  refine C.seq ?_
  refine C.region ?_
  refine R.ev rfl (E.assign rfl) ?_
  refine R.done ?_
  refine X.keep [(0, _), (1, _)] ⟨rfl, rfl, trivial⟩ ?_
  refine X.next ?_
  refine C.seq ?_
  refine C.seq ?_
  refine C.region ?_
  refine R.ev rfl (E.move rfl) ?_
  refine R.ev rfl (E.lenSl rfl Tryd.underlying53) ?_
  refine R.ev rfl (E.move rfl) ?_
  refine R.ev rfl (E.lenSl rfl Tryd.underlying42) ?_
  refine R.ev rfl (E.neq rfl rfl) ?_
  refine R.done ?_
  refine X.keep [(0, _), (1, _), (10, _)] ⟨rfl, rfl, rfl, trivial⟩ ?_
  refine X.next ?_
  refine C.cdec rfl (fun h10 => ?_) (fun h10 => ?_)
  refine C.seq ?_
  refine C.region ?_
  refine R.ev rfl (E.assign rfl) ?_
  refine R.done ?_
  refine X.keep [(4, _)] ⟨rfl, trivial⟩ ?_
  refine X.next ?_
  refine C.ret ?_
  refine X.thenRet ?_
  refine X.ret1 rfl rfl ?_
  exact ⟨by rw [decide_eq_false]; intro e; rw [e] at h10; omega, hs⟩
  refine C.skip ?_
  refine X.next ?_
  refine C.seq ?_
  refine C.seq ?_
  refine C.region ?_
  refine R.ev rfl (E.assign rfl) ?_
  refine R.done ?_
  refine X.keep [(0, _), (1, _), (5, _)] ⟨rfl, rfl, rfl, trivial⟩ ?_
  refine X.next ?_
  refine C.block ?_
  refine C.loop  [(0, _), (1, _)] (fun k => [(5, .int .i64 (k : Nat))]) (fun k w' => k ≤ A.length ∧ Sat K w' Hs ∧ A.take k = B.take k) (fun k => A.length - k) (0) ⟨rfl, rfl, rfl, trivial⟩ ⟨Nat.zero_le _, hs, rfl⟩ ?_
  rintro k w1 ⟨hk, hs, htk⟩
  refine C.keep [(0, _), (1, _), (5, _)] ⟨rfl, rfl, rfl, trivial⟩ ?_
  refine C.seq ?_
  refine C.seq ?_
  refine C.region ?_
  refine R.ev rfl (E.move rfl) ?_
  refine R.ev rfl (E.move rfl) ?_
  refine R.ev rfl (E.lenSl rfl Tryd.underlying53) ?_
  refine R.ev rfl (E.lss rfl rfl) ?_
  refine R.done ?_
  refine X.keep [(0, _), (1, _), (5, _), (14, _)] ⟨rfl, rfl, rfl, rfl, trivial⟩ ?_
  refine X.next ?_
  refine C.cdec rfl (fun h14 => ?_) (fun h14 => ?_)
  obtain ⟨y, bk_y, of_y, hy, my, ly, rfl, Ay⟩ := hs.el (i := k) (ad := ad) (n := A.length) (c := c) (by omega)
  have ay := Ay _ hs
  obtain ⟨z, bk_z, of_z, hz, mz, lz, rfl, Az⟩ := hs.el (i := k) (ad := ad') (n := B.length) (c := c') (by omega)
  have az := Az _ hs
  have q1 := encP_len z.pu
  have q2 := encV_len z.nx
  refine C.skip ?_
  refine X.next ?_
  refine C.seq ?_
  refine C.block ?_
  refine C.seq ?_
  refine C.drawn (SatS hs) ([3, 8, 13, 19, 24], [0, 1, 2, 4, 5, 6, 7, 9, 10, 11, 12, 15, 16, 17, 18, 20, 21, 22, 23, 25, 26]) (by kernel_rfl) ?_
  have hs := hs.drew
  refine D.evP 0 rfl (by kernel_rfl) rfl (fun _ => hs.to) (fun _ => E.move rfl) ?_
  refine D.evP 1 rfl (by kernel_rfl) rfl (fun _ => hs.to) (fun _ => E.move rfl) ?_
  refine D.evP 2 rfl (by kernel_rfl) rfl (fun _ => hs.to) (fun _ => E.indexAddr rfl rfl Tryd.underlying53 Tryd.sz61 rfl (by omega)) ?_
  refine D.evP 4 rfl (by kernel_rfl) rfl (fun _ => hs.to) (fun _ => E.move rfl) ?_
  refine D.evP 5 rfl (by kernel_rfl) rfl (fun _ => hs.to) (fun _ => E.move rfl) ?_
  refine D.evP 6 rfl (by kernel_rfl) rfl (fun _ => hs.to) (fun _ => E.indexAddr rfl rfl Tryd.underlying42 Tryd.sz49 rfl (by omega)) ?_
  refine D.evP 7 rfl (by kernel_rfl) rfl (fun _ => hs.to) (fun _ => E.fieldAddrN 0 rfl Tryd.underlying49 rfl Tryd.sz3 rfl) ?_
  refine D.evP 9 rfl (by kernel_rfl) rfl (fun _ => hs.to) (fun _ => E.move rfl) ?_
  refine D.evP 10 rfl (by kernel_rfl) rfl (fun _ => hs.to) (fun _ => E.move rfl) ?_
  refine D.evP 11 rfl (by kernel_rfl) rfl (fun _ => hs.to) (fun _ => E.indexAddr rfl rfl Tryd.underlying42 Tryd.sz49 rfl (by omega)) ?_
  refine D.evP 12 rfl (by kernel_rfl) rfl (fun _ => hs.to) (fun _ => E.fieldAddrN 1 rfl Tryd.underlying49 rfl Tryd.sz32 rfl) ?_
  refine D.evP 15 rfl (by kernel_rfl) rfl (fun _ => hs.to) (fun _ => E.move rfl) ?_
  refine D.evP 16 rfl (by kernel_rfl) rfl (fun _ => hs.to) (fun _ => E.move rfl) ?_
  refine D.evP 17 rfl (by kernel_rfl) rfl (fun _ => hs.to) (fun _ => E.indexAddr rfl rfl Tryd.underlying42 Tryd.sz49 rfl (by omega)) ?_
  refine D.evP 18 rfl (by kernel_rfl) rfl (fun _ => hs.to) (fun _ => E.fieldAddrN 18 rfl Tryd.underlying49 rfl Tryd.sz3 rfl) ?_
  refine D.evP 20 rfl (by kernel_rfl) rfl (fun _ => hs.to) (fun _ => E.move rfl) ?_
  refine D.evP 21 rfl (by kernel_rfl) rfl (fun _ => hs.to) (fun _ => E.move rfl) ?_
  refine D.evP 22 rfl (by kernel_rfl) rfl (fun _ => hs.to) (fun _ => E.indexAddr rfl rfl Tryd.underlying42 Tryd.sz49 rfl (by omega)) ?_
  refine D.evP 23 rfl (by kernel_rfl) rfl (fun _ => hs.to) (fun _ => E.fieldAddrN 19 rfl Tryd.underlying49 rfl Tryd.sz34 rfl) ?_
  refine D.ev 3 rfl (by kernel_rfl) rfl hs.to (fun _ hS => E.loadRow rfl Tryd.underlying61 rfl Tryd.sz61 (Ay _ hS) ly) ?_
  refine D.ev 8 rfl (by kernel_rfl) rfl hs.to (fun _ hS => E.load1 rfl Tryd.underlying3 rfl (At.cellC (Az _ hS) (i := 0))) ?_
  refine D.ev 13 rfl (by kernel_rfl) rfl hs.to (fun _ hS => E.loadRowC rfl Tryd.underlying32 rfl Tryd.sz32 (At.partC (Az _ hS))) ?_
  refine D.ev 19 rfl (by kernel_rfl) rfl hs.to (fun _ hS => E.load1 rfl Tryd.underlying3 rfl (At.cellC (Az _ hS) (i := 18))) ?_
  refine D.ev 24 rfl (by kernel_rfl) rfl hs.to (fun _ hS => E.loadRowC rfl Tryd.underlying34 rfl Tryd.sz34 (At.partC (Az _ hS))) ?_
  refine D.act 14 rfl (by kernel_rfl) ?_
  refine R.call ⟨_, _, Tryd.func16, rfl, by kernel_rfl⟩ rfl rfl (to_any z.pu hs) ?_
  rintro _ w614 ⟨rfl, hs⟩
  refine D.back hs.to ?_
  refine D.evP 25 rfl (by kernel_rfl) rfl (fun _ => hs.to) (fun _ => E.buildG (r := encK z) rfl Tryd.underlying61 Tryd.zr61 Tryd.ql61 (by kernel_rfl) (by kernel_rfl) ⟨⟨_, rfl, by rfl⟩, ⟨_, rfl, by simp [Value.cells, *]⟩, ⟨_, rfl, by rfl⟩, ⟨_, rfl, by exact vsz _⟩, trivial⟩ (by simp [setF, fieldsOf, Value.cells, encK])) ?_
  refine D.evP 26 rfl (by kernel_rfl) rfl (fun _ => hs.to) (fun _ => (E.neqAgg 10 rfl rfl Tryd.lv61 rfl Tryd.underlying61 rfl Tryd.gd61 (encK_fits y) (encK_fits z)).isB (c := decide (y ≠ z)) (by rw [encK_eq]; simp)) ?_
  refine D.done rfl (by kernel_rfl) ?_
  refine X.keep [(0, _), (1, _), (5, _), (43, _)] ⟨rfl, rfl, rfl, rfl, trivial⟩ ?_
  refine X.next ?_
  refine C.cdec rfl (fun h43 => ?_) (fun h43 => ?_)
  refine C.seq ?_
  refine C.region ?_
  refine R.ev rfl (E.assign rfl) ?_
  refine R.done ?_
  refine X.keep [(4, _)] ⟨rfl, trivial⟩ ?_
  refine X.next ?_
  refine C.ret ?_
  refine X.blockRet ?_
  refine X.thenRet ?_
  refine X.loopRet ?_
  refine X.blockRet ?_
  refine X.thenRet ?_
  refine X.ret1 rfl rfl ?_
  exact ⟨by rw [decide_eq_false]; intro e; rw [e, hz] at hy; exact h43 (by simpa using hy.symm), hs⟩
  refine C.skip ?_
  refine X.blockNormal ?_
  refine X.next ?_
  refine C.region ?_
  refine R.ev rfl (E.move rfl) ?_
  refine R.ev rfl (E.add rfl rfl (by omega) (by omega)) ?_
  refine R.ev rfl (E.assign rfl) ?_
  refine R.done ?_
  refine X.keep [(0, _), (1, _), (5, _)] ⟨rfl, rfl, rfl, trivial⟩ ?_
  exact X.again (k + 1) ⟨rfl, rfl, rfl, trivial⟩ ⟨by omega, hs, by rw [take_snoc hy, take_snoc hz, htk, Decidable.not_not.1 h43]⟩ (by omega)
  refine C.exit ?_
  refine X.thenExit ?_
  refine X.loopExit ?_
  refine X.blockExit ?_
  refine X.next ?_
  refine C.seq ?_
  refine C.region ?_
  refine R.ev rfl (E.assign rfl) ?_
  refine R.done ?_
  refine X.keep [(4, _)] ⟨rfl, trivial⟩ ?_
  refine X.next ?_
  refine C.ret ?_
  refine X.ret1 rfl rfl ?_
  exact ⟨by rw [decide_eq_true]; rw [← List.take_length (l := A), ← List.take_length (l := B), show B.length = A.length by omega]; rwa [show k = A.length by omega] at htk, hs⟩
theorem chains_any {L2 : List RO} (hI : KInv MK MR L) (hsame : ∀ r, r ∈ L ↔ r ∈ L2) (hlen : L.length ≤ 1000) (hlen2 : L2.length ≤ 1000) (hs : Sat K w Hs) [hr : KRow encO 84 K v L2] [hw : KrIn p MK MR Hs] : Ret Tryd.prog 26 #[ptr p, v] w fun r w' => r = .bool true ∧ Sat K w' Hs := by
  have o1 : OneC v := ⟨KRow.oneC' hr⟩
  refine Ret.enter (n := 23) (args := [ptr p, v]) Tryd.func26 rfl rfl ?_
  refine C.keep [(0, _), (1, _)] ⟨rfl, rfl, trivial⟩ ?_
  refine C.seq ?_
  refine C.region ?_
  refine R.ev rfl (E.assign rfl) ?_
  refine R.done ?_
  refine X.keep [(0, _), (1, _)] ⟨rfl, rfl, trivial⟩ ?_
  refine X.next ?_
  refine C.seq ?_
  refine C.seq ?_
  refine C.region ?_
  refine R.ev rfl (E.assign rfl) ?_
  refine R.done ?_
  refine X.keep [(0, _), (1, _), (5, _)] ⟨rfl, rfl, rfl, trivial⟩ ?_
  refine X.next ?_
  refine C.block ?_
  refine C.loop  [(0, _), (1, _)] (fun k => [(5, .int .i64 (k : Nat))]) (fun k w' => k ≤ 24 ∧ Sat K w' Hs) (fun k => 24 - k) (0) ⟨rfl, rfl, rfl, trivial⟩ ⟨Nat.zero_le _, hs⟩ ?_
  rintro k w1 ⟨hk, hs⟩
  refine C.keep [(0, _), (1, _), (5, _)] ⟨rfl, rfl, rfl, trivial⟩ ?_
  refine C.seq ?_
  refine C.seq ?_
  refine C.region ?_
  refine R.ev rfl (E.move rfl) ?_
  refine R.ev rfl (E.lss rfl rfl) ?_
  refine R.done ?_
  refine X.keep [(0, _), (1, _), (5, _), (8, _)] ⟨rfl, rfl, rfl, rfl, trivial⟩ ?_
  refine X.next ?_
  refine C.cdec rfl (fun h8 => ?_) (fun h8 => ?_)
  refine C.skip ?_
  refine X.next ?_
  refine C.seq ?_
  refine C.block ?_
  refine C.seq ?_
  refine C.region ?_
  refine R.ev rfl (E.move rfl) ?_
  refine R.ev rfl ((E.conv rfl Tryd.underlying3 Tryd.underlying5).as (u := ub (UInt8.ofNat k)) (by rw [IntKind.wrap_u8]; simp only [ub, Value.int.injEq, true_and]; rw [UInt8.toNat_ofNat']; omega)) ?_
  refine R.call ⟨_, _, Tryd.func14, rfl, by kernel_rfl⟩ rfl rfl (public_any _ hs) ?_
  rintro _ w42 ⟨rfl, hs⟩
  refine R.call ⟨_, _, Tryd.func13, rfl, by kernel_rfl⟩ rfl rfl (rOf_any _ hs) ?_
  rintro _ w43 ⟨rfl, hs⟩
  generalize ofP (pubk (UInt8.ofNat k).toNat) = a
  have q1 := encV_len a
  refine R.sallocA hs Tryd.zr29 rfl ?_
  intro b6 w6 hs
  refine R.cstoreAll hs rfl rfl Tryd.sz29 (by rfl) (by assumption) (by exact OneL.all) ?_
  intro w4_5 hs
  try simp only [List.set_cons_zero, List.set_cons_succ] at hs
  refine R.done ?_
  refine X.keep [(0, _), (1, _), (5, _), (6, _)] ⟨rfl, rfl, rfl, rfl, trivial⟩ ?_
  refine X.next ?_
  refine C.seq ?_
  refine C.drawn (SatS hs) ([1, 4], [0, 3, 7]) (by kernel_rfl) ?_
  have hs := hs.drew
  refine D.evP 0 rfl (by kernel_rfl) rfl (fun _ => hs.to) (fun _ => E.move rfl) ?_
  refine D.evP 3 rfl (by kernel_rfl) rfl (fun _ => hs.to) (fun _ => E.move rfl) ?_
  refine D.ev 1 rfl (by kernel_rfl) rfl hs.to (fun _ hS => E.loadRowC rfl Tryd.underlying29 rfl Tryd.sz29 (by exact ⟨hS.ldA, by assumption⟩)) ?_
  refine D.ev 4 rfl (by kernel_rfl) rfl hs.to (fun _ hS => E.loadRowC rfl Tryd.underlying29 rfl Tryd.sz29 (by exact ⟨hS.ldA, by assumption⟩)) ?_
  refine D.act 2 rfl (by kernel_rfl) ?_
  refine R.call ⟨_, _, Tryd.func22, rfl, by kernel_rfl⟩ rfl rfl (chain_any a hI (by omega) hs) ?_
  rintro v17 w17 ⟨c, F17, r17, hc, hs⟩
  refine D.back hs.to ?_
  refine D.act 5 rfl (by kernel_rfl) ?_
  refine R.call ⟨_, _, Tryd.func18, rfl, by kernel_rfl⟩ rfl rfl (rchain_any a hs (by omega)) ?_
  rintro v20 w20 ⟨d, F20, r20, hd, hs⟩
  have hcl := hc.len
  obtain rfl : c = d := ChA.det hI.ok.inj (fun r _ => hsame r) hc hd
  refine D.backT (by kernel_rfl) ?_
  refine D.act 6 rfl (by kernel_rfl) ?_
  refine R.call ⟨_, _, Tryd.func21, rfl, by kernel_rfl⟩ rfl rfl (cmpChain_any (A := c) (B := c) hs (by omega)) ?_
  rintro _ w21 ⟨rfl, hs⟩
  refine D.backT (by kernel_rfl) ?_
  refine D.evP 7 rfl (by kernel_rfl) rfl (np (by kernel_rfl)) (fun _ => (E.not rfl).isB (c := false) (by simp)) ?_
  refine D.done rfl (by kernel_rfl) ?_
  refine X.keep [(0, _), (1, _), (5, _), (22, _)] ⟨rfl, rfl, rfl, rfl, trivial⟩ ?_
  refine X.next ?_
  refine C.cfalse rfl ?_
  refine C.skip ?_
  refine X.blockNormal ?_
  refine X.next ?_
  refine C.region ?_
  refine R.ev rfl (E.move rfl) ?_
  refine R.ev rfl (E.add rfl rfl (by omega) (by omega)) ?_
  refine R.ev rfl (E.assign rfl) ?_
  refine R.done ?_
  refine X.keep [(0, _), (1, _), (5, _)] ⟨rfl, rfl, rfl, trivial⟩ ?_
  exact X.again (k + 1) ⟨rfl, rfl, rfl, trivial⟩ ⟨by omega, hs.to⟩ (by omega)
  refine C.exit ?_
  refine X.thenExit ?_
  refine X.loopExit ?_
  refine X.blockExit ?_
  refine X.next ?_
  refine C.seq ?_
  refine C.region ?_
  refine R.ev rfl (E.assign rfl) ?_
  refine R.done ?_
  refine X.keep [(4, _)] ⟨rfl, trivial⟩ ?_
  refine X.next ?_
  refine C.ret ?_
  refine X.ret1 rfl rfl ?_
  exact ⟨rfl, hs⟩
end Go.Proofs.YtbkgibgomohdjaaDoor
