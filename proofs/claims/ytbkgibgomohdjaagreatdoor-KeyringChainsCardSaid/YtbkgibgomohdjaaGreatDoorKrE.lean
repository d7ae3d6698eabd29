/-
 Chapter 19: Key, Judge.
-/
import Derived.Test.YtbkgibgomohdjaaGreatDoorKrD
namespace Go.Proofs.YtbkgibgomohdjaaGreatDoor
open Go.Eng Go.RowKit Go.Sort
variable {K : Kn} {Hs Rs : List Hl} {F : Hl} {w : World} {v : Value} {L : List RO} {p : Nat} {MK : MKn} {MR : MRo}
def inC (c : List KY) (n : Int) : Bool := decide (0 ≤ n ∧ n < c.length)
def kyAt (c : List KY) (n : Int) : KY := if inC c n = true then c.getD n.toNat kz else kz
theorem kyAt_get {c : List KY} {n : Int} {y : KY} (h : inC c n = true) (hy : c[n.toNat]? = some y) : kyAt c n = y := by rw [kyAt, if_pos h, List.getD_eq_getElem?_getD, hy]; rfl
theorem key_any (a : Vec 16) (n : Int) (hI : KInv MK MR L) (hlen : L.length ≤ 100000) (hs : Sat K w Hs) [hw : KrIn p MK MR Hs] : Ret Tryz.prog 9 #[ptr p, idV a.1, .int .i64 n] w fun v w' => ∃ c, v = .tuple #[.agg (encK (kyAt c n)).toArray, .bool (inC c n)] ∧ ChA L a c ∧ Sat K w' Hs := by
 have e1 := encV_len a
 refine Ret.enter (n := 25) (args := [ptr p, idV a.1, .int .i64 n]) Tryz.func9 rfl rfl ?_
 refine C.keep [(0, _), (1, _), (2, _)] ⟨rfl, rfl, rfl, trivial⟩ (C.seq (C.region ?_))
 refine R.sboxA hs rfl rfl ?_
 intro b4 w4 hs
 refine R.sallocA hs Tryz.zr39 rfl ?_
 intro b6 w6 hs
 refine R.ev rfl (E.assign rfl) (R.done (X.keep [(0, _), (2, _), (4, _), (6, _)] ⟨rfl, rfl, rfl, rfl, trivial⟩ (X.next (C.seq (C.region (R.ev rfl (E.move rfl) (R.ev rfl (E.loadRowC rfl Tryz.underlying54 rfl Tryz.sz54 (by exact ⟨hs.ldA, by assumption⟩)) ?_)))))))
 refine R.call ⟨_, _, Tryz.func13, rfl, by kernel_rfl⟩ rfl rfl (chain_any a hI hlen hs) ?_
 rintro v11 w11 ⟨c, F11, r11, hc, hs⟩
 obtain ⟨ad11, cap11, rfl, _⟩ := r11.val
 refine R.ev rfl (E.assign rfl) (R.done (X.keep [(2, _), (6, _), (8, _)] ⟨rfl, rfl, rfl, trivial⟩ (X.next (C.seq (C.seq (C.region (R.ev rfl (E.move rfl) (R.ev rfl (E.lss rfl rfl) ?_))))))))
 refine R.ev rfl (E.move rfl) ?_
 refine R.split 14 rfl (fun h14 => ?_) (fun h14 => ?_)
 refine R.gskip rfl rfl rfl (R.gskip rfl rfl rfl (R.gskip rfl rfl rfl (R.gskip rfl rfl rfl (R.ev rfl (E.pickT rfl rfl) (R.done (X.keep [(2, _), (6, _), (8, _), (19, _)] ⟨rfl, rfl, rfl, rfl, trivial⟩ (X.next (C.ctrue rfl ?_))))))))
 refine C.seq (C.region ?_)
 have hin : inC c n = false := by
   (have := of_decide_eq_true h14; exact decide_eq_false (by omega))
 refine R.ev rfl (E.buildG (r := encK kz) rfl Tryz.underlying39 Tryz.zr39 Tryz.ql39 (by kernel_rfl) (by kernel_rfl) trivial (by rfl)) ?_
 refine R.cstoreAll hs rfl rfl Tryz.sz39 (by rfl) (by rfl) (by exact Enc.one _) ?_
 intro w3_1 hs
 try simp only [List.set_cons_zero, List.set_cons_succ] at hs
 refine R.ev rfl (E.assign rfl) (R.done (X.keep [(6, _), (7, _)] ⟨rfl, rfl, trivial⟩ (X.next (C.ret (X.thenRet ?_)))))
 refine X.resCT rfl rfl Tryz.underlying39 rfl Tryz.sz39 (by exact ⟨hs.ldA, by rfl⟩) rfl ?_
 exact ⟨c, by rw [kyAt, hin]; rfl, hc, hs.to⟩
 refine R.gyes rfl rfl (R.ev rfl (E.move rfl) (R.gyes rfl rfl (R.ev rfl (E.move rfl) (R.gyes rfl rfl (R.ev rfl (E.lenSl rfl Tryz.underlying47) (R.gyes rfl rfl (R.ev rfl (E.geq rfl rfl) (R.ev rfl (E.pickF rfl rfl) ?_))))))))
 refine R.done (X.keep [(2, _), (6, _), (8, _), (19, _)] ⟨rfl, rfl, rfl, rfl, trivial⟩ (X.next ?_))
 refine C.cdec rfl (fun h19 => ?_) (fun h19 => ?_)
 refine C.seq (C.region ?_)
 have hin : inC c n = false := by
   exact decide_eq_false (by omega)
 refine R.ev rfl (E.buildG (r := encK kz) rfl Tryz.underlying39 Tryz.zr39 Tryz.ql39 (by kernel_rfl) (by kernel_rfl) trivial (by rfl)) ?_
 refine R.cstoreAll hs rfl rfl Tryz.sz39 (by rfl) (by rfl) (by exact Enc.one _) ?_
 intro w3_1 hs
 try simp only [List.set_cons_zero, List.set_cons_succ] at hs
 refine R.ev rfl (E.assign rfl) (R.done (X.keep [(6, _), (7, _)] ⟨rfl, rfl, trivial⟩ (X.next (C.ret (X.thenRet ?_)))))
 refine X.resCT rfl rfl Tryz.underlying39 rfl Tryz.sz39 (by exact ⟨hs.ldA, by rfl⟩) rfl ?_
 exact ⟨c, by rw [kyAt, hin]; rfl, hc, hs.to⟩
 refine C.skip (X.next (C.seq (C.region ?_)))
 have h14 := of_decide_eq_false h14
 have hin : inC c n = true := decide_eq_true (by omega)
 obtain ⟨m, rfl⟩ : ∃ m : Nat, n = m := ⟨n.toNat, by omega⟩
 obtain ⟨y, bk_y, of_y, hy, my, ly, rfl, Ay⟩ := hs.el (i := m) (ad := ad11) (n := c.length) (c := cap11) (by omega)
 have ay := Ay _ hs
 have hky := kyAt_get hin (by rw [Int.toNat_natCast]; exact hy)
 refine R.ev rfl (E.move rfl) (R.ev rfl (E.move rfl) (R.ev rfl (E.indexAddr rfl rfl Tryz.underlying47 Tryz.sz39 rfl (by omega)) (R.ev rfl (E.loadRowC rfl Tryz.underlying39 rfl Tryz.sz39 (by exact ⟨by assumption, by assumption⟩)) ?_)))
 refine R.cstoreAll hs rfl rfl Tryz.sz39 (by rfl) (by assumption) (by exact Enc.one _) ?_
 intro w4_4 hs
 try simp only [List.set_cons_zero, List.set_cons_succ] at hs
 refine R.ev rfl (E.assign rfl) (R.done (X.keep [(6, _), (7, _)] ⟨rfl, rfl, trivial⟩ (X.next (C.ret ?_))))
 refine X.resCT rfl rfl Tryz.underlying39 rfl Tryz.sz39 (by exact ⟨hs.ldA, by assumption⟩) rfl ?_
 exact ⟨c, by rw [hky, hin], hc, hs.to⟩
theorem judge_any (a : Vec 16) (n : Int) (q : PK) (leaf : Int) (id : Vec 32) [HasKc K] (hI : KInv MK MR L) (hlen : L.length ≤ 100000) (hs : Sat K w Hs) [hw : KrIn p MK MR Hs] : Ret Tryz.prog 17 #[ptr p, idV a.1, .int .i64 n, .agg (encP q).toArray, .int .i64 leaf, idV id.1] w fun v w' => ∃ c, v = .int .i64 (judge c a n q leaf id) ∧ ChA L a c ∧ Sat K w' Hs := by
 have e1 := encV_len a
 have e2 := encV_len id
 refine Ret.enter (n := 66) (args := [ptr p, idV a.1, .int .i64 n, .agg (encP q).toArray, .int .i64 leaf, idV id.1]) Tryz.func17 rfl rfl ?_
 refine C.keep [(0, _), (1, _), (2, _), (3, _), (4, _), (5, _)] ⟨rfl, rfl, rfl, rfl, rfl, rfl, trivial⟩ (C.seq (C.region ?_))
 refine R.sboxA hs rfl rfl ?_
 intro b7 w7 hs
 refine R.sboxA hs rfl rfl ?_
 intro b9 w9 hs
 refine R.sboxA hs rfl rfl ?_
 intro b11 w11 hs
 refine R.ev rfl (E.assign rfl) (R.done (X.keep [(0, _), (2, _), (4, _), (7, _), (9, _), (11, _)] ⟨rfl, rfl, rfl, rfl, rfl, rfl, trivial⟩ (X.next (C.seq (C.seq (C.region (R.ev rfl (E.move rfl) (R.ev rfl (E.eqlNilF rfl rfl Tryz.underlying24) ?_))))))))
 refine R.done (X.keep [(0, _), (2, _), (4, _), (7, _), (9, _), (11, _), (16, _)] ⟨rfl, rfl, rfl, rfl, rfl, rfl, rfl, trivial⟩ (X.next (C.cfalse rfl (C.skip (X.next (C.seq (C.region (R.ev rfl (E.move rfl) ?_))))))))
 refine R.ev rfl (E.loadRowC rfl Tryz.underlying54 rfl Tryz.sz54 (by exact ⟨hs.ldA, by assumption⟩)) (R.ev rfl (E.move rfl) ?_)
 refine R.call ⟨_, _, Tryz.func9, rfl, by kernel_rfl⟩ rfl rfl (key_any a n hI hlen hs) ?_
 rintro _ w3 ⟨c, rfl, hc, hs⟩
 have hJ : judge c a n q leaf id = if inC c n = true then (if (kyAt c n).pu ≠ q then 2 else if (kyAt c n).lim ≠ -1 ∧ ((kyAt c n).lim < leaf ∨ (leaf = (kyAt c n).lim ∧ id ≠ (kyAt c n).nx)) then 3 else 0) else if n ≠ 0 then 1 else if fine q = true ∧ ofP q = a then 0 else 2 := by
   unfold judge
   by_cases hb : 0 ≤ n ∧ n < c.length
   · have hin : inC c n = true := decide_eq_true hb
     obtain ⟨y, hy⟩ : ∃ y, c[n.toNat]? = some y := ⟨_, List.getElem?_eq_getElem (by omega)⟩
     rw [if_pos hb, if_pos hin, kyAt_get hin hy, hy]
   · have hin : inC c n = false := decide_eq_false hb
     rw [if_neg hb, hin]; simp
 generalize kyAt c n = ky at hJ ⊢
 generalize inC c n = ic at hJ ⊢
 rcases ic with _ | _
 refine R.ev rfl (E.move rfl) (R.ev rfl (E.extract rfl rfl) (R.ev rfl (E.extract rfl rfl) ?_))
 refine R.sallocA hs Tryz.zr39 rfl ?_
 intro b13 w13 hs
 refine R.cstoreAll hs rfl rfl Tryz.sz39 (by rfl) (by exact Enc.len _) (by exact Enc.one _) ?_
 intro w3_8 hs
 try simp only [List.set_cons_zero, List.set_cons_succ] at hs
 refine R.ev rfl (E.assign rfl) (R.done (X.keep [(2, _), (4, _), (7, _), (9, _), (11, _), (13, _), (14, _)] ⟨rfl, rfl, rfl, rfl, rfl, rfl, rfl, trivial⟩ (X.next (C.seq (C.block (C.seq (C.region (R.ev rfl (E.move rfl) ?_))))))))
 refine R.ev rfl (E.move rfl) (R.gskip rfl rfl rfl (R.gskip rfl rfl rfl (R.gskip rfl rfl rfl (R.gskip rfl rfl rfl (R.ev rfl (E.pickF rfl rfl) (R.ev rfl (E.assign rfl) (R.done (X.keep [(2, _), (4, _), (7, _), (9, _), (11, _), (13, _), (14, _), (24, _)] ⟨rfl, rfl, rfl, rfl, rfl, rfl, rfl, rfl, trivial⟩ ?_))))))))
 refine X.next (C.cfalse rfl (C.seq (C.region (R.ev rfl (E.move rfl) (R.ev rfl (E.move rfl) (R.gskip rfl rfl rfl (R.gskip rfl rfl rfl (R.gskip rfl rfl rfl ?_))))))))
 refine R.ev rfl (E.pickF rfl rfl) (R.ev rfl (E.move rfl) (R.gskip rfl rfl rfl (R.gskip rfl rfl rfl (R.gskip rfl rfl rfl (R.gskip rfl rfl rfl (R.gskip rfl rfl rfl (R.gundef rfl rfl (R.gundef rfl rfl ?_))))))))
 refine R.gundef rfl rfl (R.gundef rfl rfl (R.gundef rfl rfl (R.gundef rfl rfl (R.gundef rfl rfl (R.gundef rfl rfl (R.gundef rfl rfl (R.gundef rfl rfl (R.gskip rfl rfl rfl ?_))))))))
 refine R.ev rfl (E.pickF rfl rfl) (R.ev rfl (E.assign rfl) (R.done (X.keep [(2, _), (7, _), (9, _), (14, _), (32, _)] ⟨rfl, rfl, rfl, rfl, rfl, trivial⟩ (X.next (C.cfalse rfl (C.seq (C.region (R.ev rfl (E.move rfl) ?_))))))))
 refine R.ev rfl (E.assign rfl) (R.done (X.keep [(2, _), (7, _), (9, _), (57, _)] ⟨rfl, rfl, rfl, rfl, trivial⟩ (X.next (C.cfalse rfl (C.seq (C.region (R.ev rfl (E.move rfl) (R.ev rfl (E.neq rfl rfl) ?_))))))))
 refine R.ev rfl (E.assign rfl) (R.done (X.keep [(7, _), (9, _), (59, _)] ⟨rfl, rfl, rfl, trivial⟩ (X.next ?_)))
 refine C.cbool rfl (fun h59 => ?_) (fun h59 => ?_)
 refine C.seq (C.region (R.ev rfl (E.assign rfl) (R.done (X.keep [(12, _)] ⟨rfl, trivial⟩ (X.next (C.ret (X.blockRet (X.thenRet ?_))))))))
 refine X.ret1 rfl rfl ?_
 exact ⟨c, by rw [hJ, if_neg (by decide), if_pos (of_decide_eq_true h59)], hc, hs.to⟩
 refine C.seq (C.region (R.ev rfl (E.loadRowC rfl Tryz.underlying54 rfl Tryz.sz54 (by exact ⟨hs.ldA, by assumption⟩)) (R.ev rfl (E.loadRowC rfl Tryz.underlying35 rfl Tryz.sz35 (by exact ⟨hs.ldA, by exact Enc.len _⟩)) ?_)))
 refine R.call ⟨_, _, Tryz.func33, rfl, by kernel_rfl⟩ rfl rfl (isFirst_any a q hs) ?_
 rintro _ w12 ⟨rfl, hs⟩
 refine R.ev rfl (E.assign rfl) (R.done (X.keep [(62, _)] ⟨rfl, trivial⟩ (X.next ?_)))
 refine C.cbool rfl (fun h62 => ?_) (fun h62 => ?_)
 refine C.seq (C.region (R.ev rfl (E.assign rfl) (R.done (X.keep [(12, _)] ⟨rfl, trivial⟩ (X.next (C.ret (X.blockRet (X.thenRet ?_))))))))
 refine X.ret1 rfl rfl ?_
 exact ⟨c, by rw [hJ, if_neg (by decide), if_neg (of_decide_eq_false h59), if_pos (by simpa using h62)], hc, hs.to⟩
 refine C.skip (X.blockNormal (X.next (C.seq (C.region (R.ev rfl (E.assign rfl) (R.done (X.keep [(12, _)] ⟨rfl, trivial⟩ (X.next ?_))))))))
 refine C.ret (X.ret1 rfl rfl ?_)
 exact ⟨c, by rw [hJ, if_neg (by decide), if_neg (of_decide_eq_false h59), if_neg (by simpa using h62)], hc, hs.to⟩
 refine R.ev rfl (E.move rfl) (R.ev rfl (E.extract rfl rfl) (R.ev rfl (E.extract rfl rfl) ?_))
 refine R.sallocA hs Tryz.zr39 rfl ?_
 intro b13 w13 hs
 refine R.cstoreAll hs rfl rfl Tryz.sz39 (by rfl) (by exact Enc.len _) (by exact Enc.one _) ?_
 intro w3_8 hs
 try simp only [List.set_cons_zero, List.set_cons_succ] at hs
 refine R.ev rfl (E.assign rfl) (R.done (X.keep [(2, _), (4, _), (7, _), (9, _), (11, _), (13, _), (14, _)] ⟨rfl, rfl, rfl, rfl, rfl, rfl, rfl, trivial⟩ (X.next (C.seq (C.block (C.seq (C.region (R.ev rfl (E.move rfl) ?_))))))))
 refine R.ev rfl (E.move rfl) (R.gyes rfl rfl (R.ev rfl (E.fieldAddr0 1 rfl Tryz.underlying39 rfl Tryz.sz35 rfl) (R.gyes rfl rfl (R.ev rfl (E.loadRowC rfl Tryz.underlying35 rfl Tryz.sz35 (by exact ⟨hs.ldM rfl rfl, by exact Enc.len _⟩)) (R.gyes rfl rfl (R.ev rfl (E.loadRowC rfl Tryz.underlying35 rfl Tryz.sz35 (by exact ⟨hs.ldA, by exact Enc.len _⟩)) (R.gyes rfl rfl ?_)))))))
 refine R.ev rfl ((E.neqAgg 10 rfl rfl Tryz.lv35 rfl Tryz.underlying35 rfl Tryz.gd35 (encP_fits ky.pu) (encP_fits q)).isB (c := decide (ky.pu ≠ q)) (by rw [encP_eq]; simp)) ?_
 refine R.ev rfl (E.pickT rfl rfl) (R.ev rfl (E.assign rfl) (R.done (X.keep [(2, _), (4, _), (7, _), (9, _), (11, _), (13, _), (14, _), (24, _)] ⟨rfl, rfl, rfl, rfl, rfl, rfl, rfl, rfl, trivial⟩ (X.next ?_))))
 refine C.cbool rfl (fun h24 => ?_) (fun h24 => ?_)
 refine C.seq (C.region (R.ev rfl (E.assign rfl) (R.done (X.keep [(12, _)] ⟨rfl, trivial⟩ (X.next (C.ret (X.blockRet (X.thenRet ?_))))))))
 refine X.ret1 rfl rfl ?_
 exact ⟨c, by rw [hJ, if_pos rfl, if_pos (of_decide_eq_true h24)], hc, hs.to⟩
 refine C.seq (C.region (R.ev rfl (E.move rfl) (R.ev rfl (E.move rfl) (R.gyes rfl rfl (R.ev rfl (E.fieldAddr0 18 rfl Tryz.underlying39 rfl Tryz.sz3 rfl) (R.gyes rfl rfl (R.ev rfl (E.load1 rfl Tryz.underlying3 rfl (by exact hs.ldc)) (R.gyes rfl rfl ?_))))))))
 refine R.ev rfl (E.neq rfl rfl) (R.ev rfl (E.pickT rfl rfl) (R.ev rfl (E.move rfl) ?_))
 refine R.split 39 rfl (fun h39 => ?_) (fun h39 => ?_)
 refine R.gyes rfl rfl (R.ev rfl (E.move rfl) (R.gyes rfl rfl (R.ev rfl (E.fieldAddr0 18 rfl Tryz.underlying39 rfl Tryz.sz3 rfl) (R.gyes rfl rfl (R.ev rfl (E.load1 rfl Tryz.underlying3 rfl (by exact hs.ldc)) (R.gyes rfl rfl (R.ev rfl (E.gtr rfl rfl) (R.gyes rfl rfl ?_))))))))
 refine R.ev rfl (E.move rfl) ?_
 refine R.split 44 rfl (fun h44 => ?_) (fun h44 => ?_)
 refine R.gskip rfl rfl rfl (R.gskip rfl rfl rfl (R.gskip rfl rfl rfl (R.gskip rfl rfl rfl (R.gskip rfl rfl rfl (R.gundef rfl rfl (R.gundef rfl rfl (R.gundef rfl rfl (R.gundef rfl rfl ?_))))))))
 refine R.gskip rfl rfl rfl (R.gyes rfl rfl (R.ev rfl (E.pickT rfl rfl) (R.ev rfl (E.pickT rfl rfl) (R.ev rfl (E.assign rfl) (R.done (X.keep [(2, _), (7, _), (9, _), (14, _), (32, _)] ⟨rfl, rfl, rfl, rfl, rfl, trivial⟩ (X.next (C.ctrue rfl ?_))))))))
 refine C.seq (C.region (R.ev rfl (E.assign rfl) (R.done (X.keep [(12, _)] ⟨rfl, trivial⟩ (X.next (C.ret (X.blockRet (X.thenRet ?_))))))))
 refine X.ret1 rfl rfl ?_
 have hl : ky.lim < leaf ∨ (leaf = ky.lim ∧ id ≠ ky.nx) := by
   exact .inl (of_decide_eq_true h44)
 exact ⟨c, by rw [hJ, if_pos rfl, if_neg (of_decide_eq_false h24), if_pos ⟨of_decide_eq_true h39, hl⟩], hc, hs.to⟩
 refine R.gyes rfl rfl (R.ev rfl (E.move rfl) (R.gyes rfl rfl (R.ev rfl (E.fieldAddr0 18 rfl Tryz.underlying39 rfl Tryz.sz3 rfl) (R.gyes rfl rfl (R.ev rfl (E.load1 rfl Tryz.underlying3 rfl (by exact hs.ldc)) (R.gyes rfl rfl (R.ev rfl (E.eql rfl rfl) (R.gyes rfl rfl ?_))))))))
 refine R.ev rfl (E.move rfl) ?_
 refine R.split 49 rfl (fun h49 => ?_) (fun h49 => ?_)
 refine R.gyes rfl rfl (R.ev rfl (E.loadRowC rfl Tryz.underlying37 rfl Tryz.sz37 (by exact ⟨hs.ldA, by assumption⟩)) (R.gyes rfl rfl (R.ev rfl (E.fieldAddr0 19 rfl Tryz.underlying39 rfl Tryz.sz37 rfl) (R.gyes rfl rfl (R.ev rfl (E.loadRowC rfl Tryz.underlying37 rfl Tryz.sz37 (by exact hs.ldp)) (R.gyes rfl rfl (R.ev rfl (E.neV 10 rfl rfl Tryz.lv37 rfl Tryz.underlying37 rfl Tryz.gd37) (R.gyes rfl rfl ?_))))))))
 refine R.ev rfl (E.pickT rfl rfl) (R.gyes rfl rfl (R.ev rfl (E.pickF rfl rfl) (R.ev rfl (E.pickT rfl rfl) (R.ev rfl (E.assign rfl) (R.done (X.keep [(2, _), (7, _), (9, _), (14, _), (32, _)] ⟨rfl, rfl, rfl, rfl, rfl, trivial⟩ (X.next ?_)))))))
 refine C.cbool rfl (fun h32 => ?_) (fun h32 => ?_)
 refine C.seq (C.region (R.ev rfl (E.assign rfl) (R.done (X.keep [(12, _)] ⟨rfl, trivial⟩ (X.next (C.ret (X.blockRet (X.thenRet ?_))))))))
 refine X.ret1 rfl rfl ?_
 have hl : ky.lim < leaf ∨ (leaf = ky.lim ∧ id ≠ ky.nx) := by
   exact .inr ⟨of_decide_eq_true h49, of_decide_eq_true h32⟩
 exact ⟨c, by rw [hJ, if_pos rfl, if_neg (of_decide_eq_false h24), if_pos ⟨of_decide_eq_true h39, hl⟩], hc, hs.to⟩
 refine C.seq (C.region (R.ev rfl (E.move rfl) (R.ev rfl (E.assign rfl) (R.done (X.keep [(2, _), (7, _), (9, _), (57, _)] ⟨rfl, rfl, rfl, rfl, trivial⟩ (X.next (C.ctrue rfl (C.seq ?_))))))))
 refine C.region (R.ev rfl (E.assign rfl) (R.done (X.keep [(12, _)] ⟨rfl, trivial⟩ (X.next (C.ret (X.blockRet (X.thenRet (X.ret1 rfl rfl ?_))))))))
 have hl : ¬ (ky.lim ≠ -1 ∧ (ky.lim < leaf ∨ (leaf = ky.lim ∧ id ≠ ky.nx))) := by
   exact fun g => (g.2.elim (of_decide_eq_false h44) fun k => of_decide_eq_false h32 k.2)
 exact ⟨c, by rw [hJ, if_pos rfl, if_neg (of_decide_eq_false h24), if_neg hl], hc, hs.to⟩
 refine R.gskip rfl rfl rfl (R.gskip rfl rfl rfl (R.gskip rfl rfl rfl (R.gskip rfl rfl rfl (R.gyes rfl rfl (R.ev rfl (E.pickF rfl rfl) (R.gyes rfl rfl (R.ev rfl (E.pickF rfl rfl) (R.ev rfl (E.pickT rfl rfl) ?_))))))))
 refine R.ev rfl (E.assign rfl) (R.done (X.keep [(2, _), (7, _), (9, _), (14, _), (32, _)] ⟨rfl, rfl, rfl, rfl, rfl, trivial⟩ (X.next (C.cfalse rfl (C.seq (C.region (R.ev rfl (E.move rfl) (R.ev rfl (E.assign rfl) ?_))))))))
 refine R.done (X.keep [(2, _), (7, _), (9, _), (57, _)] ⟨rfl, rfl, rfl, rfl, trivial⟩ (X.next (C.ctrue rfl (C.seq (C.region (R.ev rfl (E.assign rfl) (R.done (X.keep [(12, _)] ⟨rfl, trivial⟩ ?_))))))))
 refine X.next (C.ret (X.blockRet (X.thenRet (X.ret1 rfl rfl ?_))))
 have hl : ¬ (ky.lim ≠ -1 ∧ (ky.lim < leaf ∨ (leaf = ky.lim ∧ id ≠ ky.nx))) := by
   exact fun g => (g.2.elim (of_decide_eq_false h44) fun k => of_decide_eq_false h49 k.1)
 exact ⟨c, by rw [hJ, if_pos rfl, if_neg (of_decide_eq_false h24), if_neg hl], hc, hs.to⟩
 refine R.gskip rfl rfl rfl (R.gskip rfl rfl rfl (R.gskip rfl rfl rfl (R.gskip rfl rfl rfl (R.gskip rfl rfl rfl (R.gundef rfl rfl (R.gundef rfl rfl (R.gundef rfl rfl (R.gundef rfl rfl ?_))))))))
 refine R.gundef rfl rfl (R.gundef rfl rfl (R.gundef rfl rfl (R.gundef rfl rfl (R.gundef rfl rfl (R.gundef rfl rfl (R.gskip rfl rfl rfl (R.ev rfl (E.pickF rfl rfl) (R.ev rfl (E.assign rfl) ?_))))))))
 refine R.done (X.keep [(2, _), (7, _), (9, _), (14, _), (32, _)] ⟨rfl, rfl, rfl, rfl, rfl, trivial⟩ (X.next (C.cfalse rfl (C.seq (C.region (R.ev rfl (E.move rfl) (R.ev rfl (E.assign rfl) (R.done ?_))))))))
 refine X.keep [(2, _), (7, _), (9, _), (57, _)] ⟨rfl, rfl, rfl, rfl, trivial⟩ (X.next (C.ctrue rfl (C.seq (C.region (R.ev rfl (E.assign rfl) (R.done (X.keep [(12, _)] ⟨rfl, trivial⟩ (X.next ?_))))))))
 refine C.ret (X.blockRet (X.thenRet (X.ret1 rfl rfl ?_)))
 have hl : ¬ (ky.lim ≠ -1 ∧ (ky.lim < leaf ∨ (leaf = ky.lim ∧ id ≠ ky.nx))) := by
   exact fun g => of_decide_eq_false h39 g.1
 exact ⟨c, by rw [hJ, if_pos rfl, if_neg (of_decide_eq_false h24), if_neg hl], hc, hs.to⟩
end Go.Proofs.YtbkgibgomohdjaaGreatDoor
