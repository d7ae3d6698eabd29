/-
 Chapter 19: the comparisons, the smallest element.
-/
import Derived.Test.YtbkgibgomohdjaaGreatDoorShaR
namespace Go.Proofs.YtbkgibgomohdjaaGreatDoor
open Go.Eng Go.RowKit Go.Sort
variable {K : Kn} {Hs Rs : List Hl} {F : Hl} {w : World} {v : Value}
theorem bcompare_any (b off cap n b' off' cap' n' : Nat) (l m : List UInt8) (w : World) (hn : l.length = n) (hn' : m.length = n') (h : At w b off (l.map ub)) (h' : At w b' off' (m.map ub)) :
   Ret Tryz.prog 42 #[.slice (some ⟨b, off, none⟩) n cap, .slice (some ⟨b', off', none⟩) n' cap'] w fun v w' => v = .int .i64 (cmpL l m) ∧ w = w' := by
 subst hn hn'
 refine Ret.enter (n := 8) (args := [.slice (some ⟨b, off, none⟩) l.length cap, .slice (some ⟨b', off', none⟩) m.length cap']) Tryz.func42 rfl rfl ?_
 refine C.keep [(0, _), (1, _)] ⟨rfl, rfl, trivial⟩ (C.seq (C.region (R.ev rfl (E.assign rfl) (R.done (X.keep [(0, _), (1, _)] ⟨rfl, rfl, trivial⟩ (X.next (C.seq (C.region ?_))))))))
 refine R.ev rfl (E.move rfl) (R.ev rfl (E.move rfl) (R.ev rfl (E.ext ⟨_, Tryz.func54, by kernel_rfl, by kernel_rfl, by kernel_rfl, (by kernel_rfl : Extern.find _ = some Extern.BytealgCompare.compare)⟩ rfl (run_compare h h')) (R.ev rfl (E.assign rfl) (R.done (X.keep [(4, _)] ⟨rfl, trivial⟩ (X.next (C.ret (X.ret1 rfl rfl ?_))))))))
 exact ⟨rfl, rfl⟩
theorem idCmp_any (a c : Vec 32) (hs : Sat K w Hs) : Ret Tryz.prog 25 #[idV a.1, idV c.1] w fun v w' => v = .int .i64 (cmpL a.1 c.1) ∧ Sat K w' Hs := by
 have e1 := encV_len a
 have e2 := encV_len c
 refine Ret.enter (n := 8) (args := [idV a.1, idV c.1]) Tryz.func25 rfl rfl ?_
 refine C.keep [(0, _), (1, _)] ⟨rfl, rfl, trivial⟩ (C.seq (C.region ?_))
 refine R.sboxA hs rfl rfl ?_
 intro b2 w2 hs
 refine R.sboxA hs rfl rfl ?_
 intro b3 w3 hs
 refine R.ev rfl (E.assign rfl) (R.done (X.keep [(2, _), (3, _)] ⟨rfl, rfl, trivial⟩ (X.next (C.seq ?_))))
 refine C.drawn (SatS hs) ([], [0, 1, 3]) (by kernel_rfl) ?_
 have hs := hs.drew
 refine D.evP 0 rfl (by kernel_rfl) rfl (np (by kernel_rfl)) (fun _ => E.sliceA rfl Tryz.underlying37 Tryz.sz5) (D.evP 1 rfl (by kernel_rfl) rfl (np (by kernel_rfl)) (fun _ => E.sliceA rfl Tryz.underlying37 Tryz.sz5) (D.act 2 rfl (by kernel_rfl) ?_))
 refine R.call ⟨_, _, Tryz.func42, rfl, by kernel_rfl⟩ rfl rfl (bcompare_any b2 0 32 32 b3 0 32 32 a.1 c.1 _ a.2 c.2 hs.ldA hs.ldA) ?_
 rintro _ _ ⟨rfl, rfl⟩
 refine D.backT (by kernel_rfl) (D.evP 3 rfl (by kernel_rfl) rfl (np (by kernel_rfl)) (fun _ => E.assign rfl) (D.done rfl (by kernel_rfl) (X.keep [(4, _)] ⟨rfl, trivial⟩ (X.next (C.ret (X.ret1 rfl rfl ?_))))))
 exact ⟨rfl, hs.to⟩
theorem cmpP_any (p q : PK) (hs : Sat K w Hs) : Ret Tryz.prog 29 #[.agg (encP p).toArray, .agg (encP q).toArray] w fun v w' => v = .int .i64 (orI (cmpI p.h q.h) (cmpL p.r.1 q.r.1)) ∧ Sat K w' Hs := by
 refine Ret.enter (n := 17) (args := [.agg (encP p).toArray, .agg (encP q).toArray]) Tryz.func29 rfl rfl ?_
 refine C.keep [(0, _), (1, _)] ⟨rfl, rfl, trivial⟩ (C.seq (C.region ?_))
 refine R.sboxA hs rfl rfl ?_
 intro b2 w2 hs
 refine R.sboxA hs rfl rfl ?_
 intro b3 w3 hs
 refine R.ev rfl (E.assign rfl) (R.done (X.keep [(2, _), (3, _)] ⟨rfl, rfl, trivial⟩ (X.next (C.seq ?_))))
 refine C.drawn (SatS hs) ([1, 3], [0, 2, 5, 6, 7, 8, 12]) (by kernel_rfl) ?_
 have hs := hs.drew
 refine D.evP 0 rfl (by kernel_rfl) rfl (fun _ => hs.to) (fun _ => E.fieldAddr0 0 rfl Tryz.underlying35 rfl Tryz.sz3 rfl) (D.evP 2 rfl (by kernel_rfl) rfl (fun _ => hs.to) (fun _ => E.fieldAddr0 0 rfl Tryz.underlying35 rfl Tryz.sz3 rfl) (D.evP 5 rfl (by kernel_rfl) rfl (fun _ => hs.to) (fun _ => E.fieldAddr0 1 rfl Tryz.underlying35 rfl Tryz.sz28 rfl) (D.evP 6 rfl (by kernel_rfl) rfl (fun _ => hs.to) (fun _ => E.sliceA rfl Tryz.underlying28 Tryz.sz5) (D.evP 7 rfl (by kernel_rfl) rfl (fun _ => hs.to) (fun _ => E.fieldAddr0 1 rfl Tryz.underlying35 rfl Tryz.sz28 rfl) (D.evP 8 rfl (by kernel_rfl) rfl (fun _ => hs.to) (fun _ => E.sliceA rfl Tryz.underlying28 Tryz.sz5) (D.ev 1 rfl (by kernel_rfl) rfl hs.to (fun _ hS => E.load1 rfl Tryz.underlying3 rfl (by exact hS.ldc)) (D.ev 3 rfl (by kernel_rfl) rfl hs.to (fun _ hS => E.load1 rfl Tryz.underlying3 rfl (by exact hS.ldc)) (D.act 4 rfl (by kernel_rfl) ?_))))))))
 refine R.call ⟨_, _, Tryz.func47, rfl, by kernel_rfl⟩ rfl rfl (cmpCompare_any p.h q.h _) ?_
 rintro _ _ ⟨rfl, rfl⟩
 refine D.backT (by kernel_rfl) (D.act 9 rfl (by kernel_rfl) ?_)
 refine R.call ⟨_, _, Tryz.func42, rfl, by kernel_rfl⟩ rfl rfl (bcompare_any b2 1 16 16 b3 1 16 16 p.r.1 q.r.1 _ p.r.2 q.r.2 (hs.ldp (m := 16) (l := encP p)).1 (hs.ldp (m := 16) (l := encP q)).1) ?_
 rintro _ _ ⟨rfl, rfl⟩
 refine D.backT (by kernel_rfl) (D.act 10 rfl (by kernel_rfl) ?_)
 refine R.buildSlice1 (parts := [(0, .tmp 9), (1, .tmp 14)]) (vs := [_, _]) rfl rfl rfl Tryz.underlying119 Tryz.sz3 Tryz.zr3 rfl (by simp [Value.oneCell']) (by decide) ?_
 intro b15 w15 n15
 have hs := hs.new n15
 refine D.backT (by kernel_rfl) (D.act 11 rfl (by kernel_rfl) ?_)
 refine R.call ⟨_, _, Tryz.func46, rfl, by kernel_rfl⟩ rfl rfl (cmpOr_any _ _ hs) ?_
 rintro _ w11 ⟨rfl, hs⟩
 refine D.backT (by kernel_rfl) (D.evP 12 rfl (by kernel_rfl) rfl (np (by kernel_rfl)) (fun _ => E.assign rfl) (D.done rfl (by kernel_rfl) (X.keep [(4, _)] ⟨rfl, trivial⟩ (X.next (C.ret (X.ret1 rfl rfl ?_))))))
 exact ⟨rfl, hs.to⟩
theorem cmpO_any (x y : RO) (hs : Sat K w Hs) : Ret Tryz.prog 31 #[.agg (encO x).toArray, .agg (encO y).toArray] w fun v w' => v = .int .i64 (orI (cmpI x.leaf y.leaf) (cmpL x.id.1 y.id.1)) ∧ Sat K w' Hs := by
 refine Ret.enter (n := 17) (args := [.agg (encO x).toArray, .agg (encO y).toArray]) Tryz.func31 rfl rfl ?_
 refine C.keep [(0, _), (1, _)] ⟨rfl, rfl, trivial⟩ (C.seq (C.region ?_))
 refine R.sboxA hs rfl rfl ?_
 intro b2 w2 hs
 refine R.sboxA hs rfl rfl ?_
 intro b3 w3 hs
 refine R.ev rfl (E.assign rfl) (R.done (X.keep [(2, _), (3, _)] ⟨rfl, rfl, trivial⟩ (X.next (C.seq ?_))))
 refine C.drawn (SatS hs) ([1, 3, 6, 8], [0, 2, 5, 7, 12]) (by kernel_rfl) ?_
 have hs := hs.drew
 refine D.evP 0 rfl (by kernel_rfl) rfl (fun _ => hs.to) (fun _ => E.fieldAddr0 66 rfl Tryz.underlying90 rfl Tryz.sz3 rfl) (D.evP 2 rfl (by kernel_rfl) rfl (fun _ => hs.to) (fun _ => E.fieldAddr0 66 rfl Tryz.underlying90 rfl Tryz.sz3 rfl) (D.evP 5 rfl (by kernel_rfl) rfl (fun _ => hs.to) (fun _ => E.fieldAddr0 0 rfl Tryz.underlying90 rfl Tryz.sz37 rfl) (D.evP 7 rfl (by kernel_rfl) rfl (fun _ => hs.to) (fun _ => E.fieldAddr0 0 rfl Tryz.underlying90 rfl Tryz.sz37 rfl) (D.ev 1 rfl (by kernel_rfl) rfl hs.to (fun _ hS => E.load1 rfl Tryz.underlying3 rfl (by exact hS.ldc)) (D.ev 3 rfl (by kernel_rfl) rfl hs.to (fun _ hS => E.load1 rfl Tryz.underlying3 rfl (by exact hS.ldc)) (D.ev 6 rfl (by kernel_rfl) rfl hs.to (fun _ hS => E.loadRowC rfl Tryz.underlying37 rfl Tryz.sz37 (by exact ⟨hS.ldP rfl, by exact encV_len _⟩)) (D.ev 8 rfl (by kernel_rfl) rfl hs.to (fun _ hS => E.loadRowC rfl Tryz.underlying37 rfl Tryz.sz37 (by exact ⟨hS.ldP rfl, by exact encV_len _⟩)) (D.act 4 rfl (by kernel_rfl) ?_))))))))
 refine R.call ⟨_, _, Tryz.func47, rfl, by kernel_rfl⟩ rfl rfl (cmpCompare_any x.leaf y.leaf _) ?_
 rintro _ _ ⟨rfl, rfl⟩
 refine D.back hs.to (D.act 9 rfl (by kernel_rfl) ?_)
 refine R.call ⟨_, _, Tryz.func25, rfl, by kernel_rfl⟩ rfl rfl (idCmp_any x.id y.id hs) ?_
 rintro _ w9 ⟨rfl, hs⟩
 refine D.backT (by kernel_rfl) (D.act 10 rfl (by kernel_rfl) ?_)
 refine R.buildSlice1 (parts := [(0, .tmp 9), (1, .tmp 14)]) (vs := [_, _]) rfl rfl rfl Tryz.underlying119 Tryz.sz3 Tryz.zr3 rfl (by simp [Value.oneCell']) (by decide) ?_
 intro b15 w15 n15
 have hs := hs.new n15
 refine D.backT (by kernel_rfl) (D.act 11 rfl (by kernel_rfl) ?_)
 refine R.call ⟨_, _, Tryz.func46, rfl, by kernel_rfl⟩ rfl rfl (cmpOr_any _ _ hs) ?_
 rintro _ w11 ⟨rfl, hs⟩
 refine D.backT (by kernel_rfl) (D.evP 12 rfl (by kernel_rfl) rfl (np (by kernel_rfl)) (fun _ => E.assign rfl) (D.done rfl (by kernel_rfl) (X.keep [(4, _)] ⟨rfl, trivial⟩ (X.next (C.ret (X.ret1 rfl rfl ?_))))))
 exact ⟨rfl, hs.to⟩
def pz : PK := ⟨0, kvz16⟩
def oz : RO := ⟨kvz, kvz16, 0, pz, 0, pz⟩
def kz : KY := ⟨0, pz, 0, kvz⟩
theorem smallP_any {K : Kn} {Hs : List Hl} {L : List PK} {ad : Option Addr} {n c : Nat} {w : World} (hs : Sat K w Hs) [hr : Rd encP 17 K Hs (.slice ad n c) L] (hn : n ≤ 1000000) :
   Ret Tryz.prog 28 #[.slice ad n c, .func (.func 29) #[] #[]] w fun v w' => ∃ x, v = .tuple #[.agg (encP x).toArray, .bool (decide (0 < L.length))] ∧ (L = [] → x = pz) ∧ (L ≠ [] → Least ltP L x) ∧ Sat K w' Hs := by
 have hln := hr.len
 refine Ret.enter (n := 31) (args := [.slice ad n c, .func (.func 29) #[] #[]]) Tryz.func28 rfl rfl ?_
 refine C.keep [(0, _), (1, _)] ⟨rfl, rfl, trivial⟩ (C.seq (C.region ?_))
 refine R.sallocA hs Tryz.zr35 rfl ?_
 intro b4 w4 hs
 have hs : Sat K w4 (row b4 35 (encP pz) :: Hs) := hs
 refine R.ev rfl (E.assign rfl) (R.done (X.keep [(0, _), (1, _), (4, _)] ⟨rfl, rfl, rfl, trivial⟩ (X.next (C.seq (C.region ?_)))))
 refine R.sallocA hs Tryz.zr35 rfl ?_
 intro b6 w6 hs
 have hs : Sat K w6 (row b6 35 (encP pz) :: row b4 35 (encP pz) :: Hs) := hs
 refine R.done (X.keep [(0, _), (1, _), (4, _), (6, _)] ⟨rfl, rfl, rfl, rfl, trivial⟩ (X.next (C.seq (C.seq (C.region (R.ev rfl (E.move rfl) (R.ev rfl (E.lenSl rfl Tryz.underlying81) (R.ev rfl (E.move rfl) ?_))))))))
 refine R.done (X.keep [(0, _), (1, _), (4, _), (6, _), (9, _), (10, _), (11, _)] ⟨rfl, rfl, rfl, rfl, rfl, rfl, rfl, trivial⟩ (X.next (C.block ?_)))
 refine C.loop (T := Nat × PK) [(0, _), (1, _), (4, _), (6, _), (9, _), (10, _)] (fun (k, _) => [(11, .int .i64 (k : Nat))]) (fun (k, x) w' => k ≤ n ∧ (k = 0 → x = pz) ∧ (0 < k → Least ltP (L.take k) x) ∧ Sat K w' (row b6 35 (encP x) :: row b4 35 (encP pz) :: Hs)) (fun (k, _) => n - k) ((0, pz)) ⟨rfl, rfl, rfl, rfl, rfl, rfl, rfl, trivial⟩ ⟨Nat.zero_le _, fun _ => rfl, fun h => absurd h (by decide), hs⟩ ?_
 rintro ⟨k, x⟩ w1 ⟨hk, hz, hx, hs⟩
 refine C.keep [(0, _), (1, _), (4, _), (6, _), (9, _), (10, _), (11, _)] ⟨rfl, rfl, rfl, rfl, rfl, rfl, rfl, trivial⟩ (C.seq (C.region (R.ev rfl (E.lss rfl rfl) (R.done (X.keep [(0, _), (1, _), (4, _), (6, _), (9, _), (10, _), (11, _), (12, _)] ⟨rfl, rfl, rfl, rfl, rfl, rfl, rfl, rfl, trivial⟩ (X.next (C.seq ?_)))))))
 refine C.cdec rfl (fun h12 => ?_) (fun h12 => ?_)
 obtain ⟨y, bk_y, of_y, hy, my, ly, rfl, Ay⟩ := hs.el (i := k) (ad := ad) (n := n) (c := c) (by omega)
 have ay := Ay _ hs
 refine C.skip (X.next (C.seq (C.block (C.seq (C.region (R.ev rfl (E.move rfl) (R.ev rfl (E.indexAddr rfl rfl Tryz.underlying81 Tryz.sz35 rfl (by omega)) (R.ev rfl (E.loadRowC rfl Tryz.underlying35 rfl Tryz.sz35 (by exact ⟨by assumption, by assumption⟩)) ?_))))))))
 refine R.sallocA hs Tryz.zr35 rfl ?_
 intro b8 w8 hs
 have hs : Sat K w8 (row b8 35 (encP pz) :: row b6 35 (encP x) :: row b4 35 (encP pz) :: Hs) := hs
 refine R.ev rfl (E.assign rfl) ?_
 refine R.cstoreAll hs rfl rfl Tryz.sz35 (by rfl) (by assumption) (by exact Enc.one _) ?_
 intro w4_5 hs
 try simp only [List.set_cons_zero, List.set_cons_succ] at hs
 refine R.done (X.keep [(0, _), (1, _), (4, _), (6, _), (7, _), (8, _), (9, _), (10, _), (11, _)] ⟨rfl, rfl, rfl, rfl, rfl, rfl, rfl, rfl, rfl, trivial⟩ (X.next (C.seq (C.region (R.ev rfl (E.move rfl) (R.ev rfl (E.eql rfl rfl) (R.ev rfl (E.move rfl) ?_)))))))
 refine R.split 18 rfl (fun h18 => ?_) (fun h18 => ?_)
 refine R.gskip rfl rfl rfl (R.gskip rfl rfl rfl (R.gskip rfl rfl rfl (R.gskip rfl rfl rfl (R.gskip rfl rfl rfl (R.ev rfl (E.pickT rfl rfl) (R.done (X.keep [(0, _), (1, _), (4, _), (6, _), (8, _), (9, _), (10, _), (11, _), (24, _)] ⟨rfl, rfl, rfl, rfl, rfl, rfl, rfl, rfl, rfl, trivial⟩ (X.next ?_))))))))
 refine C.ctrue rfl (C.region (R.ev rfl (E.loadRowC rfl Tryz.underlying35 rfl Tryz.sz35 (by exact ⟨hs.ldA, by assumption⟩)) ?_))
 refine R.cstoreAll hs rfl rfl Tryz.sz35 (by exact Enc.len _) (by assumption) (by exact Enc.one _) ?_
 intro w6_1 hs
 try simp only [List.set_cons_zero, List.set_cons_succ] at hs
 refine R.done (X.keep [(0, _), (1, _), (4, _), (6, _), (9, _), (10, _), (11, _)] ⟨rfl, rfl, rfl, rfl, rfl, rfl, rfl, trivial⟩ (X.blockNormal (X.next (C.region (R.ev rfl (E.add rfl rfl (by omega) (by omega)) (R.ev rfl (E.move rfl) (R.done (X.keep [(0, _), (1, _), (4, _), (6, _), (9, _), (10, _), (11, _)] ⟨rfl, rfl, rfl, rfl, rfl, rfl, rfl, trivial⟩ ?_))))))))
 exact X.again (k + 1, y) ⟨rfl, rfl, rfl, rfl, rfl, rfl, rfl, trivial⟩ ⟨by omega, fun h => absurd h (by omega), fun _ => by rw [take_snoc hy, show k = 0 from by have := of_decide_eq_true h18; omega, List.take_zero]; exact Least.one ltP_swo y, hs.to⟩ (by show _ - _ < _ - _; omega)
 refine R.gyes rfl rfl (R.ev rfl (E.move rfl) (R.gyes rfl rfl (R.ev rfl (E.loadRowC rfl Tryz.underlying35 rfl Tryz.sz35 (by exact ⟨hs.ldA, by assumption⟩)) (R.gyes rfl rfl (R.ev rfl (E.loadRowC rfl Tryz.underlying35 rfl Tryz.sz35 (by exact ⟨hs.ldA, by exact Enc.len _⟩)) (R.gyes rfl rfl ?_))))))
 refine R.callV ⟨_, _, Tryz.func29, rfl, by kernel_rfl⟩ rfl rfl rfl (cmpP_any y x hs) ?_
 rintro _ w56 ⟨rfl, hs⟩
 refine R.gyes rfl rfl ?_
 refine R.ev rfl ((E.lss rfl rfl).isB (c := ltP y x) rfl) ?_
 refine R.ev rfl (E.pickF rfl rfl) (R.done (X.keep [(0, _), (1, _), (4, _), (6, _), (8, _), (9, _), (10, _), (11, _), (24, _)] ⟨rfl, rfl, rfl, rfl, rfl, rfl, rfl, rfl, rfl, trivial⟩ (X.next ?_)))
 refine C.cbool rfl (fun h24 => ?_) (fun h24 => ?_)
 refine C.region (R.ev rfl (E.loadRowC rfl Tryz.underlying35 rfl Tryz.sz35 (by exact ⟨hs.ldA, by assumption⟩)) ?_)
 refine R.cstoreAll hs rfl rfl Tryz.sz35 (by exact Enc.len _) (by assumption) (by exact Enc.one _) ?_
 intro w6_1 hs
 try simp only [List.set_cons_zero, List.set_cons_succ] at hs
 refine R.done (X.keep [(0, _), (1, _), (4, _), (6, _), (9, _), (10, _), (11, _)] ⟨rfl, rfl, rfl, rfl, rfl, rfl, rfl, trivial⟩ (X.blockNormal (X.next (C.region (R.ev rfl (E.add rfl rfl (by omega) (by omega)) (R.ev rfl (E.move rfl) (R.done (X.keep [(0, _), (1, _), (4, _), (6, _), (9, _), (10, _), (11, _)] ⟨rfl, rfl, rfl, rfl, rfl, rfl, rfl, trivial⟩ ?_))))))))
 exact X.again (k + 1, y) ⟨rfl, rfl, rfl, rfl, rfl, rfl, rfl, trivial⟩ ⟨by omega, fun h => absurd h (by omega), fun _ => by rw [take_snoc hy]; have := Least.snoc ltP_swo (y := y) (hx (by have := of_decide_eq_false h18; omega)); rwa [h24, if_pos rfl] at this, hs.to⟩ (by show _ - _ < _ - _; omega)
 refine C.skip (X.blockNormal (X.next (C.region (R.ev rfl (E.add rfl rfl (by omega) (by omega)) (R.ev rfl (E.move rfl) (R.done (X.keep [(0, _), (1, _), (4, _), (6, _), (9, _), (10, _), (11, _)] ⟨rfl, rfl, rfl, rfl, rfl, rfl, rfl, trivial⟩ ?_)))))))
 exact X.again (k + 1, x) ⟨rfl, rfl, rfl, rfl, rfl, rfl, rfl, trivial⟩ ⟨by omega, fun h => absurd h (by omega), fun _ => by rw [take_snoc hy]; have := Least.snoc ltP_swo (y := y) (hx (by have := of_decide_eq_false h18; omega)); rwa [h24, if_neg (by decide)] at this, hs.to⟩ (by show _ - _ < _ - _; omega)
 refine C.exit (X.thenExit (X.loopExit (X.blockExit (X.next (C.seq (C.region (R.ev rfl (E.loadRowC rfl Tryz.underlying35 rfl Tryz.sz35 (by exact ⟨hs.ldA, by exact Enc.len _⟩)) (R.ev rfl (E.move rfl) ?_))))))))
 refine R.ev rfl (E.lenSl rfl Tryz.underlying81) ?_
 refine R.ev rfl ((E.gtr rfl rfl).isB (c := decide (0 < L.length)) (by rw [decide_eq_decide]; omega)) ?_
 refine R.cstoreAll hs rfl rfl Tryz.sz35 (by rfl) (by exact Enc.len _) (by exact Enc.one _) ?_
 intro w8_4 hs
 try simp only [List.set_cons_zero, List.set_cons_succ] at hs
 refine R.ev rfl (E.assign rfl) (R.done (X.keep [(4, _), (5, _)] ⟨rfl, rfl, trivial⟩ (X.next (C.ret ?_))))
 refine X.resCT rfl rfl Tryz.underlying35 rfl Tryz.sz35 (by exact ⟨hs.ldA, by exact Enc.len _⟩) rfl ?_
 have hL : L.take k = L := List.take_of_length_le (by omega)
 rw [hL] at hx
 exact ⟨x, rfl, fun h => hz (by rw [h] at hln; simp at hln; omega), fun h => hx (by rcases Nat.eq_zero_or_pos k with h0 | h0; exact absurd (List.length_eq_zero_iff.1 (by omega)) h; exact h0), hs.to⟩
theorem smallO_any {K : Kn} {Hs : List Hl} {L : List RO} {ad : Option Addr} {n c : Nat} {w : World} (hs : Sat K w Hs) [hr : Rd encO 84 K Hs (.slice ad n c) L] (hn : n ≤ 1000000) :
   Ret Tryz.prog 30 #[.slice ad n c, .func (.func 31) #[] #[]] w fun v w' => ∃ x, v = .tuple #[.agg (encO x).toArray, .bool (decide (0 < L.length))] ∧ (L = [] → x = oz) ∧ (L ≠ [] → Least ltO L x) ∧ Sat K w' Hs := by
 have hln := hr.len
 refine Ret.enter (n := 31) (args := [.slice ad n c, .func (.func 31) #[] #[]]) Tryz.func30 rfl rfl ?_
 refine C.keep [(0, _), (1, _)] ⟨rfl, rfl, trivial⟩ (C.seq (C.region ?_))
 refine R.sallocA hs Tryz.zr90 rfl ?_
 intro b4 w4 hs
 have hs : Sat K w4 (row b4 90 (encO oz) :: Hs) := hs
 refine R.ev rfl (E.assign rfl) (R.done (X.keep [(0, _), (1, _), (4, _)] ⟨rfl, rfl, rfl, trivial⟩ (X.next (C.seq (C.region ?_)))))
 refine R.sallocA hs Tryz.zr90 rfl ?_
 intro b6 w6 hs
 have hs : Sat K w6 (row b6 90 (encO oz) :: row b4 90 (encO oz) :: Hs) := hs
 refine R.done (X.keep [(0, _), (1, _), (4, _), (6, _)] ⟨rfl, rfl, rfl, rfl, trivial⟩ (X.next (C.seq (C.seq (C.region (R.ev rfl (E.move rfl) (R.ev rfl (E.lenSl rfl Tryz.underlying82) (R.ev rfl (E.move rfl) ?_))))))))
 refine R.done (X.keep [(0, _), (1, _), (4, _), (6, _), (9, _), (10, _), (11, _)] ⟨rfl, rfl, rfl, rfl, rfl, rfl, rfl, trivial⟩ (X.next (C.block ?_)))
 refine C.loop (T := Nat × RO) [(0, _), (1, _), (4, _), (6, _), (9, _), (10, _)] (fun (k, _) => [(11, .int .i64 (k : Nat))]) (fun (k, x) w' => k ≤ n ∧ (k = 0 → x = oz) ∧ (0 < k → Least ltO (L.take k) x) ∧ Sat K w' (row b6 90 (encO x) :: row b4 90 (encO oz) :: Hs)) (fun (k, _) => n - k) ((0, oz)) ⟨rfl, rfl, rfl, rfl, rfl, rfl, rfl, trivial⟩ ⟨Nat.zero_le _, fun _ => rfl, fun h => absurd h (by decide), hs⟩ ?_
 rintro ⟨k, x⟩ w1 ⟨hk, hz, hx, hs⟩
 refine C.keep [(0, _), (1, _), (4, _), (6, _), (9, _), (10, _), (11, _)] ⟨rfl, rfl, rfl, rfl, rfl, rfl, rfl, trivial⟩ (C.seq (C.region (R.ev rfl (E.lss rfl rfl) (R.done (X.keep [(0, _), (1, _), (4, _), (6, _), (9, _), (10, _), (11, _), (12, _)] ⟨rfl, rfl, rfl, rfl, rfl, rfl, rfl, rfl, trivial⟩ (X.next (C.seq ?_)))))))
 refine C.cdec rfl (fun h12 => ?_) (fun h12 => ?_)
 obtain ⟨y, bk_y, of_y, hy, my, ly, rfl, Ay⟩ := hs.el (i := k) (ad := ad) (n := n) (c := c) (by omega)
 have ay := Ay _ hs
 refine C.skip (X.next (C.seq (C.block (C.seq (C.region (R.ev rfl (E.move rfl) (R.ev rfl (E.indexAddr rfl rfl Tryz.underlying82 Tryz.sz90 rfl (by omega)) (R.ev rfl (E.loadRowC rfl Tryz.underlying90 rfl Tryz.sz90 (by exact ⟨by assumption, by assumption⟩)) ?_))))))))
 refine R.sallocA hs Tryz.zr90 rfl ?_
 intro b8 w8 hs
 have hs : Sat K w8 (row b8 90 (encO oz) :: row b6 90 (encO x) :: row b4 90 (encO oz) :: Hs) := hs
 refine R.ev rfl (E.assign rfl) ?_
 refine R.cstoreAll hs rfl rfl Tryz.sz90 (by rfl) (by assumption) (by exact Enc.one _) ?_
 intro w4_5 hs
 try simp only [List.set_cons_zero, List.set_cons_succ] at hs
 refine R.done (X.keep [(0, _), (1, _), (4, _), (6, _), (7, _), (8, _), (9, _), (10, _), (11, _)] ⟨rfl, rfl, rfl, rfl, rfl, rfl, rfl, rfl, rfl, trivial⟩ (X.next (C.seq (C.region (R.ev rfl (E.move rfl) (R.ev rfl (E.eql rfl rfl) (R.ev rfl (E.move rfl) ?_)))))))
 refine R.split 18 rfl (fun h18 => ?_) (fun h18 => ?_)
 refine R.gskip rfl rfl rfl (R.gskip rfl rfl rfl (R.gskip rfl rfl rfl (R.gskip rfl rfl rfl (R.gskip rfl rfl rfl (R.ev rfl (E.pickT rfl rfl) (R.done (X.keep [(0, _), (1, _), (4, _), (6, _), (8, _), (9, _), (10, _), (11, _), (24, _)] ⟨rfl, rfl, rfl, rfl, rfl, rfl, rfl, rfl, rfl, trivial⟩ (X.next ?_))))))))
 refine C.ctrue rfl (C.region (R.ev rfl (E.loadRowC rfl Tryz.underlying90 rfl Tryz.sz90 (by exact ⟨hs.ldA, by assumption⟩)) ?_))
 refine R.cstoreAll hs rfl rfl Tryz.sz90 (by exact Enc.len _) (by assumption) (by exact Enc.one _) ?_
 intro w6_1 hs
 try simp only [List.set_cons_zero, List.set_cons_succ] at hs
 refine R.done (X.keep [(0, _), (1, _), (4, _), (6, _), (9, _), (10, _), (11, _)] ⟨rfl, rfl, rfl, rfl, rfl, rfl, rfl, trivial⟩ (X.blockNormal (X.next (C.region (R.ev rfl (E.add rfl rfl (by omega) (by omega)) (R.ev rfl (E.move rfl) (R.done (X.keep [(0, _), (1, _), (4, _), (6, _), (9, _), (10, _), (11, _)] ⟨rfl, rfl, rfl, rfl, rfl, rfl, rfl, trivial⟩ ?_))))))))
 exact X.again (k + 1, y) ⟨rfl, rfl, rfl, rfl, rfl, rfl, rfl, trivial⟩ ⟨by omega, fun h => absurd h (by omega), fun _ => by rw [take_snoc hy, show k = 0 from by have := of_decide_eq_true h18; omega, List.take_zero]; exact Least.one ltO_swo y, hs.to⟩ (by show _ - _ < _ - _; omega)
 refine R.gyes rfl rfl (R.ev rfl (E.move rfl) (R.gyes rfl rfl (R.ev rfl (E.loadRowC rfl Tryz.underlying90 rfl Tryz.sz90 (by exact ⟨hs.ldA, by assumption⟩)) (R.gyes rfl rfl (R.ev rfl (E.loadRowC rfl Tryz.underlying90 rfl Tryz.sz90 (by exact ⟨hs.ldA, by exact Enc.len _⟩)) (R.gyes rfl rfl ?_))))))
 refine R.callV ⟨_, _, Tryz.func31, rfl, by kernel_rfl⟩ rfl rfl rfl (cmpO_any y x hs) ?_
 rintro _ w56 ⟨rfl, hs⟩
 refine R.gyes rfl rfl ?_
 refine R.ev rfl ((E.lss rfl rfl).isB (c := ltO y x) rfl) ?_
 refine R.ev rfl (E.pickF rfl rfl) (R.done (X.keep [(0, _), (1, _), (4, _), (6, _), (8, _), (9, _), (10, _), (11, _), (24, _)] ⟨rfl, rfl, rfl, rfl, rfl, rfl, rfl, rfl, rfl, trivial⟩ (X.next ?_)))
 refine C.cbool rfl (fun h24 => ?_) (fun h24 => ?_)
 refine C.region (R.ev rfl (E.loadRowC rfl Tryz.underlying90 rfl Tryz.sz90 (by exact ⟨hs.ldA, by assumption⟩)) ?_)
 refine R.cstoreAll hs rfl rfl Tryz.sz90 (by exact Enc.len _) (by assumption) (by exact Enc.one _) ?_
 intro w6_1 hs
 try simp only [List.set_cons_zero, List.set_cons_succ] at hs
 refine R.done (X.keep [(0, _), (1, _), (4, _), (6, _), (9, _), (10, _), (11, _)] ⟨rfl, rfl, rfl, rfl, rfl, rfl, rfl, trivial⟩ (X.blockNormal (X.next (C.region (R.ev rfl (E.add rfl rfl (by omega) (by omega)) (R.ev rfl (E.move rfl) (R.done (X.keep [(0, _), (1, _), (4, _), (6, _), (9, _), (10, _), (11, _)] ⟨rfl, rfl, rfl, rfl, rfl, rfl, rfl, trivial⟩ ?_))))))))
 exact X.again (k + 1, y) ⟨rfl, rfl, rfl, rfl, rfl, rfl, rfl, trivial⟩ ⟨by omega, fun h => absurd h (by omega), fun _ => by rw [take_snoc hy]; have := Least.snoc ltO_swo (y := y) (hx (by have := of_decide_eq_false h18; omega)); rwa [h24, if_pos rfl] at this, hs.to⟩ (by show _ - _ < _ - _; omega)
 refine C.skip (X.blockNormal (X.next (C.region (R.ev rfl (E.add rfl rfl (by omega) (by omega)) (R.ev rfl (E.move rfl) (R.done (X.keep [(0, _), (1, _), (4, _), (6, _), (9, _), (10, _), (11, _)] ⟨rfl, rfl, rfl, rfl, rfl, rfl, rfl, trivial⟩ ?_)))))))
 exact X.again (k + 1, x) ⟨rfl, rfl, rfl, rfl, rfl, rfl, rfl, trivial⟩ ⟨by omega, fun h => absurd h (by omega), fun _ => by rw [take_snoc hy]; have := Least.snoc ltO_swo (y := y) (hx (by have := of_decide_eq_false h18; omega)); rwa [h24, if_neg (by decide)] at this, hs.to⟩ (by show _ - _ < _ - _; omega)
 refine C.exit (X.thenExit (X.loopExit (X.blockExit (X.next (C.seq (C.region (R.ev rfl (E.loadRowC rfl Tryz.underlying90 rfl Tryz.sz90 (by exact ⟨hs.ldA, by exact Enc.len _⟩)) (R.ev rfl (E.move rfl) ?_))))))))
 refine R.ev rfl (E.lenSl rfl Tryz.underlying82) ?_
 refine R.ev rfl ((E.gtr rfl rfl).isB (c := decide (0 < L.length)) (by rw [decide_eq_decide]; omega)) ?_
 refine R.cstoreAll hs rfl rfl Tryz.sz90 (by rfl) (by exact Enc.len _) (by exact Enc.one _) ?_
 intro w8_4 hs
 try simp only [List.set_cons_zero, List.set_cons_succ] at hs
 refine R.ev rfl (E.assign rfl) (R.done (X.keep [(4, _), (5, _)] ⟨rfl, rfl, trivial⟩ (X.next (C.ret ?_))))
 refine X.resCT rfl rfl Tryz.underlying90 rfl Tryz.sz90 (by exact ⟨hs.ldA, by exact Enc.len _⟩) rfl ?_
 have hL : L.take k = L := List.take_of_length_le (by omega)
 rw [hL] at hx
 exact ⟨x, rfl, fun h => hz (by rw [h] at hln; simp at hln; omega), fun h => hx (by rcases Nat.eq_zero_or_pos k with h0 | h0; exact absurd (List.length_eq_zero_iff.1 (by omega)) h; exact h0), hs.to⟩
end Go.Proofs.YtbkgibgomohdjaaGreatDoor
