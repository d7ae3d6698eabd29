/-
 Chapter 19, the reference: Chain, Judge.
-/
import Derived.Test.YtbkgibgomohdjaaGreatDoorKrG
namespace Go.Proofs.YtbkgibgomohdjaaGreatDoor
open Go.Eng Go.RowKit Go.Sort
variable {K : Kn} {Hs Rs : List Hl} {F : Hl} {w : World} {v : Value} {L : List RO}
theorem firsts_snoc {M : List RO} {a : Vec 16} {y : RO} : firsts (M ++ [y]) a = firsts M a ++ if y.au = a ∧ y.n = 0 then [y.pu] else [] := by
 unfold firsts slotL
 rw [List.filter_append, List.map_append]
 congr 1
 by_cases h : y.au = a ∧ y.n = 0
 · rw [List.filter_cons_of_pos (by simp [atS, h.1, h.2]), if_pos h]; rfl
 · rw [List.filter_cons_of_neg (by simpa [atS] using h), if_neg h]; rfl
theorem rchain_any (a : Vec 16) (hs : Sat K w Hs) [hr : KRow encO 84 K v L] (hL : L.length ≤ 100000) : Ret Tryz.prog 8 #[v, idV a.1] w fun r w' => ∃ c F', RowL 72 encK 51 r c F' ∧ ChA L a c ∧ Sat K w' (F' :: Hs) := by
 obtain ⟨ad, cap, rfl, hsl, hc⟩ := hr.ex
 have e1 := encV_len a
 refine Ret.enter (n := 88) (args := [.slice ad L.length cap, idV a.1]) Tryz.func8 rfl rfl ?_
 refine C.keep [(0, _), (1, _)] ⟨rfl, rfl, trivial⟩ (C.seq (C.region ?_))
 refine R.sboxA hs rfl rfl ?_
 intro b3 w3 hs
 refine R.ev rfl (E.assign rfl) (R.done (X.keep [(0, _), (3, _)] ⟨rfl, rfl, trivial⟩ (X.next (C.seq (C.region ?_)))))
 refine R.sallocA hs Tryz.zr31 rfl ?_
 intro b5 w5 hs
 have hs : Sat K w5 (row b5 31 (encP pz) :: row b3 28 (a.1.map ub) :: Hs) := hs
 refine R.done (X.keep [(0, _), (3, _), (5, _)] ⟨rfl, rfl, rfl, trivial⟩ (X.next (C.seq (C.region (R.ev rfl (E.assign rfl) (R.done (X.keep [(0, _), (3, _), (5, _), (6, _)] ⟨rfl, rfl, rfl, rfl, trivial⟩ (X.next ?_))))))))
 refine C.seq (C.seq (C.region (R.ev rfl (E.assign rfl) (R.done (X.keep [(0, _), (3, _), (5, _), (6, _), (7, _)] ⟨rfl, rfl, rfl, rfl, rfl, trivial⟩ (X.next (C.block ?_)))))))
 refine C.loop (T := Nat × Bool × PK) [(0, _), (3, _), (5, _)] (fun (k, ok, _) => [(6, .bool ok), (7, .int .i64 (k : Nat))]) (fun (k, ok, q) w' => k ≤ L.length ∧ (ok = false → firsts (L.take k) a = []) ∧ (ok = true → Least ltP (firsts (L.take k) a) q) ∧ Sat K w' (row b5 31 (encP q) :: row b3 28 (a.1.map ub) :: Hs)) (fun (k, _) => L.length - k) ((0, false, pz)) ⟨rfl, rfl, rfl, rfl, rfl, trivial⟩ ⟨Nat.zero_le _, fun _ => rfl, (fun h => nomatch h), hs⟩ ?_
 rintro ⟨k, ok, q⟩ w1 ⟨hk, h0, h1, hs⟩
 refine C.keep [(0, _), (3, _), (5, _), (6, _), (7, _)] ⟨rfl, rfl, rfl, rfl, rfl, trivial⟩ (C.seq (C.seq (C.region (R.ev rfl (E.move rfl) (R.ev rfl (E.move rfl) (R.ev rfl (E.lenSl rfl Tryz.underlying25) (R.ev rfl (E.lss rfl rfl) (R.done ?_))))))))
 refine X.keep [(0, _), (3, _), (5, _), (6, _), (7, _), (15, _)] ⟨rfl, rfl, rfl, rfl, rfl, rfl, trivial⟩ (X.next ?_)
 refine C.cdec rfl (fun h15 => ?_) (fun h15 => ?_)
 obtain ⟨y, bk_y, of_y, hy, my, ly, rfl, Ay⟩ := hs.el (i := k) (ad := ad) (n := L.length) (c := cap) (by omega)
 have ay := Ay _ hs
 refine C.skip (X.next (C.seq (C.block (C.seq ?_))))
 refine C.drawn (SatS hs) ([4, 5, 12, 23, 24], [0, 1, 2, 3, 6, 7, 8, 9, 10, 11, 13, 14, 15, 16, 17, 18, 19, 20, 21, 22, 26, 27]) (by kernel_rfl) ?_
 have hs := hs.drew
 refine D.evP 0 rfl (by kernel_rfl) rfl (fun _ => hs.to) (fun _ => E.move rfl) (D.evP 1 rfl (by kernel_rfl) rfl (fun _ => hs.to) (fun _ => E.move rfl) ?_)
 refine D.evP 2 rfl (by kernel_rfl) rfl (fun _ => hs.to) (fun _ => E.indexAddr (i := k) rfl rfl Tryz.underlying25 Tryz.sz69 rfl (by omega)) ?_
 refine D.evP 3 rfl (by kernel_rfl) rfl (fun _ => hs.to) (fun _ => E.fieldAddrN 32 rfl Tryz.underlying69 rfl Tryz.sz28 rfl) (D.ev 4 rfl (by kernel_rfl) rfl hs.to (fun _ hS => E.loadRowC rfl Tryz.underlying28 rfl Tryz.sz28 (by exact At.partC ((by assumption : ∀ w', Sat _ w' _ → At w' _ _ _) _ hS))) (D.ev 5 rfl (by kernel_rfl) rfl hs.to (fun _ hS => E.loadRowC rfl Tryz.underlying28 rfl Tryz.sz28 (by exact ⟨hS.ldA, by assumption⟩)) (D.evP 6 rfl (by kernel_rfl) rfl (fun _ => hs.to) (fun _ => E.eqV 10 rfl rfl Tryz.lv28 rfl Tryz.underlying28 rfl Tryz.gd28) (D.evP 7 rfl (by kernel_rfl) rfl (fun _ => hs.to) (fun _ => E.move rfl) ?_))))
 refine D.split 25 rfl (fun h25 => ?_) (fun h25 => ?_)
 refine D.evPG 8 rfl (by kernel_rfl) rfl rfl rfl (fun _ => hs.to) (fun _ => E.move rfl) (D.evPG 9 rfl (by kernel_rfl) rfl rfl rfl (fun _ => hs.to) (fun _ => E.move rfl) ?_)
 refine D.evPG 10 rfl (by kernel_rfl) rfl rfl rfl (fun _ => hs.to) (fun _ => E.indexAddr (i := k) rfl rfl Tryz.underlying25 Tryz.sz69 rfl (by omega)) ?_
 refine D.evPG 11 rfl (by kernel_rfl) rfl rfl rfl (fun _ => hs.to) (fun _ => E.fieldAddrN 48 rfl Tryz.underlying69 rfl Tryz.sz3 rfl) (D.evG 12 rfl (by kernel_rfl) rfl rfl rfl hs.to (fun _ hS => E.load1 rfl Tryz.underlying3 rfl (by exact At.cellC ((by assumption : ∀ w', Sat _ w' _ → At w' _ _ _) _ hS))) (D.evPG 13 rfl (by kernel_rfl) rfl rfl rfl (fun _ => hs.to) (fun _ => E.eql rfl rfl) (D.evP 14 rfl (by kernel_rfl) rfl (fun _ => hs.to) (fun _ => E.pickT rfl rfl) (D.evP 15 rfl (by kernel_rfl) rfl (fun _ => hs.to) (fun _ => E.move rfl) ?_))))
 refine D.split 33 rfl (fun h33 => ?_) (fun h33 => ?_)
 refine D.evPG 16 rfl (by kernel_rfl) rfl rfl rfl (fun _ => hs.to) (fun _ => E.move rfl) (D.evPG 17 rfl (by kernel_rfl) rfl rfl rfl (fun _ => hs.to) (fun _ => E.not rfl) (D.evPG 18 rfl (by kernel_rfl) rfl rfl rfl (fun _ => hs.to) (fun _ => E.move rfl) ?_))
 refine D.split 36 rfl (fun h36 => ?_) (fun h36 => ?_)
 refine D.skipP 19 rfl (by kernel_rfl) rfl rfl rfl (fun _ => hs.to) (D.skipP 20 rfl (by kernel_rfl) rfl rfl rfl (fun _ => hs.to) (D.skipP 21 rfl (by kernel_rfl) rfl rfl rfl (fun _ => hs.to) (D.skipP 22 rfl (by kernel_rfl) rfl rfl rfl (fun _ => hs.to) (D.skip 23 rfl (by kernel_rfl) rfl rfl rfl hs.to (D.skip 24 rfl (by kernel_rfl) rfl rfl rfl hs.to (D.act 25 rfl (by kernel_rfl) (R.gskip rfl rfl rfl (D.backT (by kernel_rfl) ?_))))))))
 refine D.evPG 26 rfl (by kernel_rfl) rfl rfl rfl (np (by kernel_rfl)) (fun _ => E.pickT rfl rfl) (D.evP 27 rfl (by kernel_rfl) rfl (np (by kernel_rfl)) (fun _ => E.pickT rfl rfl) (D.done rfl (by kernel_rfl) (X.keep [(0, _), (3, _), (5, _), (6, _), (7, _), (45, _)] ⟨rfl, rfl, rfl, rfl, rfl, rfl, trivial⟩ (X.next (C.ctrue rfl (C.region (R.ev rfl (E.move rfl) (R.ev rfl (E.move rfl) ?_))))))))
 have ay := Ay _ hs
 refine R.ev rfl (E.indexAddr (i := k) rfl rfl Tryz.underlying25 Tryz.sz69 rfl (by omega)) ?_
 refine R.ev rfl (E.fieldAddrN 49 rfl Tryz.underlying69 rfl Tryz.sz31 rfl) (R.ev rfl (E.loadRowC rfl Tryz.underlying31 rfl Tryz.sz31 (by exact At.partC (by assumption))) ?_)
 refine R.cstoreAll hs rfl rfl Tryz.sz31 (by exact Enc.len _) (by exact Enc.len _) (by exact Enc.one _) ?_
 intro w7_5 hs
 try simp only [List.set_cons_zero, List.set_cons_succ] at hs
 refine R.ev rfl (E.assign rfl) (R.done (X.keep [(0, _), (3, _), (5, _), (6, _), (7, _)] ⟨rfl, rfl, rfl, rfl, rfl, trivial⟩ (X.blockNormal (X.next (C.region (R.ev rfl (E.move rfl) (R.ev rfl (E.add rfl rfl (by omega) (by omega)) (R.ev rfl (E.assign rfl) ?_))))))))
 refine R.done (X.keep [(0, _), (3, _), (5, _), (6, _), (7, _)] ⟨rfl, rfl, rfl, rfl, rfl, trivial⟩ ?_)
 first
   | (have hm : ¬ (y.au = a ∧ y.n = 0) := by
        first
          | exact fun g => of_decide_eq_false h25 g.1
          | exact fun g => of_decide_eq_false h33 g.2
      have hf : firsts (L.take (k + 1)) a = firsts (L.take k) a := by rw [take_snoc hy, firsts_snoc, if_neg hm, List.append_nil]
      exact X.again (k + 1, ok, q) ⟨rfl, rfl, rfl, rfl, rfl, trivial⟩ ⟨by omega, by rw [hf]; exact h0, by rw [hf]; exact h1, hs⟩ (by show _ - _ < _ - _; omega))
   | (have hm : y.au = a ∧ y.n = 0 := ⟨of_decide_eq_true h25, of_decide_eq_true h33⟩
      have hok : ok = false := by simpa using h36
      have hf : firsts (L.take (k + 1)) a = [y.pu] := by rw [take_snoc hy, firsts_snoc, if_pos hm, h0 hok]; rfl
      exact X.again (k + 1, true, y.pu) ⟨rfl, rfl, rfl, rfl, rfl, trivial⟩ ⟨by omega, (fun h => nomatch h), fun _ => by rw [hf]; exact Least.one ltP_swo y.pu, hs⟩ (by show _ - _ < _ - _; omega))
   | (have hm : y.au = a ∧ y.n = 0 := ⟨of_decide_eq_true h25, of_decide_eq_true h33⟩
      have hok : ok = true := by simpa using h36
      have hls := Least.snoc ltP_swo (y := y.pu) (h1 hok)
      rw [h45, if_pos rfl] at hls
      exact X.again (k + 1, true, y.pu) ⟨rfl, rfl, rfl, rfl, rfl, trivial⟩ ⟨by omega, (fun h => nomatch h), fun _ => by rw [take_snoc hy, firsts_snoc, if_pos hm]; exact hls, hs⟩ (by show _ - _ < _ - _; omega))
   | (have hm : y.au = a ∧ y.n = 0 := ⟨of_decide_eq_true h25, of_decide_eq_true h33⟩
      have hok : ok = true := by simpa using h36
      have hls := Least.snoc ltP_swo (y := y.pu) (h1 hok)
      rw [h45, if_neg (by decide)] at hls
      exact X.again (k + 1, ok, q) ⟨rfl, rfl, rfl, rfl, rfl, trivial⟩ ⟨by omega, fun h => absurd (hok.symm.trans h) (by decide), fun _ => by rw [take_snoc hy, firsts_snoc, if_pos hm]; exact hls, hs⟩ (by show _ - _ < _ - _; omega))
 refine D.evPG 19 rfl (by kernel_rfl) rfl rfl rfl (fun _ => hs.to) (fun _ => E.move rfl) (D.evPG 20 rfl (by kernel_rfl) rfl rfl rfl (fun _ => hs.to) (fun _ => E.move rfl) ?_)
 refine D.evPG 21 rfl (by kernel_rfl) rfl rfl rfl (fun _ => hs.to) (fun _ => E.indexAddr (i := k) rfl rfl Tryz.underlying25 Tryz.sz69 rfl (by omega)) ?_
 refine D.evPG 22 rfl (by kernel_rfl) rfl rfl rfl (fun _ => hs.to) (fun _ => E.fieldAddrN 49 rfl Tryz.underlying69 rfl Tryz.sz31 rfl) (D.evG 23 rfl (by kernel_rfl) rfl rfl rfl hs.to (fun _ hS => E.loadRowC rfl Tryz.underlying31 rfl Tryz.sz31 (by exact At.partC ((by assumption : ∀ w', Sat _ w' _ → At w' _ _ _) _ hS))) (D.evG 24 rfl (by kernel_rfl) rfl rfl rfl hs.to (fun _ hS => E.loadRowC rfl Tryz.underlying31 rfl Tryz.sz31 (by exact ⟨hS.ldA, by exact Enc.len _⟩)) (D.act 25 rfl (by kernel_rfl) (R.gyes rfl rfl ?_))))
 refine R.call ⟨_, _, Tryz.func21, rfl, by kernel_rfl⟩ rfl rfl (rless_any y.pu q hs) ?_
 rintro _ w625 ⟨rfl, hs⟩
 refine D.backT (by kernel_rfl) (D.evPG 26 rfl (by kernel_rfl) rfl rfl rfl (np (by kernel_rfl)) (fun _ => E.pickF rfl rfl) (D.evP 27 rfl (by kernel_rfl) rfl (np (by kernel_rfl)) (fun _ => E.pickT rfl rfl) (D.done rfl (by kernel_rfl) (X.keep [(0, _), (3, _), (5, _), (6, _), (7, _), (45, _)] ⟨rfl, rfl, rfl, rfl, rfl, rfl, trivial⟩ (X.next ?_)))))
 refine C.cbool rfl (fun h45 => ?_) (fun h45 => ?_)
 refine C.region (R.ev rfl (E.move rfl) (R.ev rfl (E.move rfl) ?_))
 have ay := Ay _ hs
 refine R.ev rfl (E.indexAddr (i := k) rfl rfl Tryz.underlying25 Tryz.sz69 rfl (by omega)) ?_
 refine R.ev rfl (E.fieldAddrN 49 rfl Tryz.underlying69 rfl Tryz.sz31 rfl) (R.ev rfl (E.loadRowC rfl Tryz.underlying31 rfl Tryz.sz31 (by exact At.partC (by assumption))) ?_)
 refine R.cstoreAll hs rfl rfl Tryz.sz31 (by exact Enc.len _) (by exact Enc.len _) (by exact Enc.one _) ?_
 intro w7_5 hs
 try simp only [List.set_cons_zero, List.set_cons_succ] at hs
 refine R.ev rfl (E.assign rfl) (R.done (X.keep [(0, _), (3, _), (5, _), (6, _), (7, _)] ⟨rfl, rfl, rfl, rfl, rfl, trivial⟩ (X.blockNormal (X.next (C.region (R.ev rfl (E.move rfl) (R.ev rfl (E.add rfl rfl (by omega) (by omega)) (R.ev rfl (E.assign rfl) ?_))))))))
 refine R.done (X.keep [(0, _), (3, _), (5, _), (6, _), (7, _)] ⟨rfl, rfl, rfl, rfl, rfl, trivial⟩ ?_)
 first
   | (have hm : ¬ (y.au = a ∧ y.n = 0) := by
        first
          | exact fun g => of_decide_eq_false h25 g.1
          | exact fun g => of_decide_eq_false h33 g.2
      have hf : firsts (L.take (k + 1)) a = firsts (L.take k) a := by rw [take_snoc hy, firsts_snoc, if_neg hm, List.append_nil]
      exact X.again (k + 1, ok, q) ⟨rfl, rfl, rfl, rfl, rfl, trivial⟩ ⟨by omega, by rw [hf]; exact h0, by rw [hf]; exact h1, hs⟩ (by show _ - _ < _ - _; omega))
   | (have hm : y.au = a ∧ y.n = 0 := ⟨of_decide_eq_true h25, of_decide_eq_true h33⟩
      have hok : ok = false := by simpa using h36
      have hf : firsts (L.take (k + 1)) a = [y.pu] := by rw [take_snoc hy, firsts_snoc, if_pos hm, h0 hok]; rfl
      exact X.again (k + 1, true, y.pu) ⟨rfl, rfl, rfl, rfl, rfl, trivial⟩ ⟨by omega, (fun h => nomatch h), fun _ => by rw [hf]; exact Least.one ltP_swo y.pu, hs⟩ (by show _ - _ < _ - _; omega))
   | (have hm : y.au = a ∧ y.n = 0 := ⟨of_decide_eq_true h25, of_decide_eq_true h33⟩
      have hok : ok = true := by simpa using h36
      have hls := Least.snoc ltP_swo (y := y.pu) (h1 hok)
      rw [h45, if_pos rfl] at hls
      exact X.again (k + 1, true, y.pu) ⟨rfl, rfl, rfl, rfl, rfl, trivial⟩ ⟨by omega, (fun h => nomatch h), fun _ => by rw [take_snoc hy, firsts_snoc, if_pos hm]; exact hls, hs⟩ (by show _ - _ < _ - _; omega))
   | (have hm : y.au = a ∧ y.n = 0 := ⟨of_decide_eq_true h25, of_decide_eq_true h33⟩
      have hok : ok = true := by simpa using h36
      have hls := Least.snoc ltP_swo (y := y.pu) (h1 hok)
      rw [h45, if_neg (by decide)] at hls
      exact X.again (k + 1, ok, q) ⟨rfl, rfl, rfl, rfl, rfl, trivial⟩ ⟨by omega, fun h => absurd (hok.symm.trans h) (by decide), fun _ => by rw [take_snoc hy, firsts_snoc, if_pos hm]; exact hls, hs⟩ (by show _ - _ < _ - _; omega))
 refine C.skip (X.blockNormal (X.next (C.region (R.ev rfl (E.move rfl) (R.ev rfl (E.add rfl rfl (by omega) (by omega)) (R.ev rfl (E.assign rfl) (R.done (X.keep [(0, _), (3, _), (5, _), (6, _), (7, _)] ⟨rfl, rfl, rfl, rfl, rfl, trivial⟩ ?_))))))))
 first
   | (have hm : ¬ (y.au = a ∧ y.n = 0) := by
        first
          | exact fun g => of_decide_eq_false h25 g.1
          | exact fun g => of_decide_eq_false h33 g.2
      have hf : firsts (L.take (k + 1)) a = firsts (L.take k) a := by rw [take_snoc hy, firsts_snoc, if_neg hm, List.append_nil]
      exact X.again (k + 1, ok, q) ⟨rfl, rfl, rfl, rfl, rfl, trivial⟩ ⟨by omega, by rw [hf]; exact h0, by rw [hf]; exact h1, hs⟩ (by show _ - _ < _ - _; omega))
   | (have hm : y.au = a ∧ y.n = 0 := ⟨of_decide_eq_true h25, of_decide_eq_true h33⟩
      have hok : ok = false := by simpa using h36
      have hf : firsts (L.take (k + 1)) a = [y.pu] := by rw [take_snoc hy, firsts_snoc, if_pos hm, h0 hok]; rfl
      exact X.again (k + 1, true, y.pu) ⟨rfl, rfl, rfl, rfl, rfl, trivial⟩ ⟨by omega, (fun h => nomatch h), fun _ => by rw [hf]; exact Least.one ltP_swo y.pu, hs⟩ (by show _ - _ < _ - _; omega))
   | (have hm : y.au = a ∧ y.n = 0 := ⟨of_decide_eq_true h25, of_decide_eq_true h33⟩
      have hok : ok = true := by simpa using h36
      have hls := Least.snoc ltP_swo (y := y.pu) (h1 hok)
      rw [h45, if_pos rfl] at hls
      exact X.again (k + 1, true, y.pu) ⟨rfl, rfl, rfl, rfl, rfl, trivial⟩ ⟨by omega, (fun h => nomatch h), fun _ => by rw [take_snoc hy, firsts_snoc, if_pos hm]; exact hls, hs⟩ (by show _ - _ < _ - _; omega))
   | (have hm : y.au = a ∧ y.n = 0 := ⟨of_decide_eq_true h25, of_decide_eq_true h33⟩
      have hok : ok = true := by simpa using h36
      have hls := Least.snoc ltP_swo (y := y.pu) (h1 hok)
      rw [h45, if_neg (by decide)] at hls
      exact X.again (k + 1, ok, q) ⟨rfl, rfl, rfl, rfl, rfl, trivial⟩ ⟨by omega, fun h => absurd (hok.symm.trans h) (by decide), fun _ => by rw [take_snoc hy, firsts_snoc, if_pos hm]; exact hls, hs⟩ (by show _ - _ < _ - _; omega))
 refine D.skipP 16 rfl (by kernel_rfl) rfl rfl rfl (fun _ => hs.to) (D.skipP 17 rfl (by kernel_rfl) rfl rfl rfl (fun _ => hs.to) (D.skipP 18 rfl (by kernel_rfl) rfl rfl rfl (fun _ => hs.to) (D.undefP 19 rfl (by kernel_rfl) rfl rfl (fun _ => hs.to) (D.undefP 20 rfl (by kernel_rfl) rfl rfl (fun _ => hs.to) (D.undefP 21 rfl (by kernel_rfl) rfl rfl (fun _ => hs.to) (D.undefP 22 rfl (by kernel_rfl) rfl rfl (fun _ => hs.to) (D.undef 23 rfl (by kernel_rfl) rfl rfl hs.to (D.undef 24 rfl (by kernel_rfl) rfl rfl hs.to ?_))))))))
 refine D.act 25 rfl (by kernel_rfl) (R.gundef rfl rfl (D.backT (by kernel_rfl) (D.skipP 26 rfl (by kernel_rfl) rfl rfl rfl (np (by kernel_rfl)) (D.evP 27 rfl (by kernel_rfl) rfl (np (by kernel_rfl)) (fun _ => E.pickF rfl rfl) (D.done rfl (by kernel_rfl) (X.keep [(0, _), (3, _), (5, _), (6, _), (7, _), (45, _)] ⟨rfl, rfl, rfl, rfl, rfl, rfl, trivial⟩ (X.next (C.cfalse rfl ?_))))))))
 refine C.skip (X.blockNormal (X.next (C.region (R.ev rfl (E.move rfl) (R.ev rfl (E.add rfl rfl (by omega) (by omega)) (R.ev rfl (E.assign rfl) (R.done (X.keep [(0, _), (3, _), (5, _), (6, _), (7, _)] ⟨rfl, rfl, rfl, rfl, rfl, trivial⟩ ?_))))))))
 first
   | (have hm : ¬ (y.au = a ∧ y.n = 0) := by
        exact fun g => of_decide_eq_false h33 g.2
      have hf : firsts (L.take (k + 1)) a = firsts (L.take k) a := by rw [take_snoc hy, firsts_snoc, if_neg hm, List.append_nil]
      exact X.again (k + 1, ok, q) ⟨rfl, rfl, rfl, rfl, rfl, trivial⟩ ⟨by omega, by rw [hf]; exact h0, by rw [hf]; exact h1, hs⟩ (by show _ - _ < _ - _; omega))
   | (have hm : y.au = a ∧ y.n = 0 := ⟨of_decide_eq_true h25, of_decide_eq_true h33⟩
      have hok : ok = false := by simpa using h36
      have hf : firsts (L.take (k + 1)) a = [y.pu] := by rw [take_snoc hy, firsts_snoc, if_pos hm, h0 hok]; rfl
      exact X.again (k + 1, true, y.pu) ⟨rfl, rfl, rfl, rfl, rfl, trivial⟩ ⟨by omega, (fun h => nomatch h), fun _ => by rw [hf]; exact Least.one ltP_swo y.pu, hs⟩ (by show _ - _ < _ - _; omega))
   | (have hm : y.au = a ∧ y.n = 0 := ⟨of_decide_eq_true h25, of_decide_eq_true h33⟩
      have hok : ok = true := by simpa using h36
      have hls := Least.snoc ltP_swo (y := y.pu) (h1 hok)
      rw [h45, if_pos rfl] at hls
      exact X.again (k + 1, true, y.pu) ⟨rfl, rfl, rfl, rfl, rfl, trivial⟩ ⟨by omega, (fun h => nomatch h), fun _ => by rw [take_snoc hy, firsts_snoc, if_pos hm]; exact hls, hs⟩ (by show _ - _ < _ - _; omega))
   | (have hm : y.au = a ∧ y.n = 0 := ⟨of_decide_eq_true h25, of_decide_eq_true h33⟩
      have hok : ok = true := by simpa using h36
      have hls := Least.snoc ltP_swo (y := y.pu) (h1 hok)
      rw [h45, if_neg (by decide)] at hls
      exact X.again (k + 1, ok, q) ⟨rfl, rfl, rfl, rfl, rfl, trivial⟩ ⟨by omega, fun h => absurd (hok.symm.trans h) (by decide), fun _ => by rw [take_snoc hy, firsts_snoc, if_pos hm]; exact hls, hs⟩ (by show _ - _ < _ - _; omega))
 refine D.skipP 8 rfl (by kernel_rfl) rfl rfl rfl (fun _ => hs.to) (D.skipP 9 rfl (by kernel_rfl) rfl rfl rfl (fun _ => hs.to) (D.skipP 10 rfl (by kernel_rfl) rfl rfl rfl (fun _ => hs.to) (D.skipP 11 rfl (by kernel_rfl) rfl rfl rfl (fun _ => hs.to) (D.skip 12 rfl (by kernel_rfl) rfl rfl rfl hs.to (D.skipP 13 rfl (by kernel_rfl) rfl rfl rfl (fun _ => hs.to) (D.evP 14 rfl (by kernel_rfl) rfl (fun _ => hs.to) (fun _ => E.pickF rfl rfl) (D.evP 15 rfl (by kernel_rfl) rfl (fun _ => hs.to) (fun _ => E.move rfl) (D.skipP 16 rfl (by kernel_rfl) rfl rfl rfl (fun _ => hs.to) ?_))))))))
 refine D.skipP 17 rfl (by kernel_rfl) rfl rfl rfl (fun _ => hs.to) (D.skipP 18 rfl (by kernel_rfl) rfl rfl rfl (fun _ => hs.to) (D.undefP 19 rfl (by kernel_rfl) rfl rfl (fun _ => hs.to) (D.undefP 20 rfl (by kernel_rfl) rfl rfl (fun _ => hs.to) (D.undefP 21 rfl (by kernel_rfl) rfl rfl (fun _ => hs.to) (D.undefP 22 rfl (by kernel_rfl) rfl rfl (fun _ => hs.to) (D.undef 23 rfl (by kernel_rfl) rfl rfl hs.to (D.undef 24 rfl (by kernel_rfl) rfl rfl hs.to (D.act 25 rfl (by kernel_rfl) ?_))))))))
 refine R.gundef rfl rfl (D.backT (by kernel_rfl) (D.skipP 26 rfl (by kernel_rfl) rfl rfl rfl (np (by kernel_rfl)) (D.evP 27 rfl (by kernel_rfl) rfl (np (by kernel_rfl)) (fun _ => E.pickF rfl rfl) (D.done rfl (by kernel_rfl) (X.keep [(0, _), (3, _), (5, _), (6, _), (7, _), (45, _)] ⟨rfl, rfl, rfl, rfl, rfl, rfl, trivial⟩ (X.next (C.cfalse rfl (C.skip ?_))))))))
 refine X.blockNormal (X.next (C.region (R.ev rfl (E.move rfl) (R.ev rfl (E.add rfl rfl (by omega) (by omega)) (R.ev rfl (E.assign rfl) (R.done (X.keep [(0, _), (3, _), (5, _), (6, _), (7, _)] ⟨rfl, rfl, rfl, rfl, rfl, trivial⟩ ?_)))))))
 first
   | (have hm : ¬ (y.au = a ∧ y.n = 0) := by
        exact fun g => of_decide_eq_false h25 g.1
      have hf : firsts (L.take (k + 1)) a = firsts (L.take k) a := by rw [take_snoc hy, firsts_snoc, if_neg hm, List.append_nil]
      exact X.again (k + 1, ok, q) ⟨rfl, rfl, rfl, rfl, rfl, trivial⟩ ⟨by omega, by rw [hf]; exact h0, by rw [hf]; exact h1, hs⟩ (by show _ - _ < _ - _; omega))
   | (have hm : y.au = a ∧ y.n = 0 := ⟨of_decide_eq_true h25, of_decide_eq_true h33⟩
      have hok : ok = false := by simpa using h36
      have hf : firsts (L.take (k + 1)) a = [y.pu] := by rw [take_snoc hy, firsts_snoc, if_pos hm, h0 hok]; rfl
      exact X.again (k + 1, true, y.pu) ⟨rfl, rfl, rfl, rfl, rfl, trivial⟩ ⟨by omega, (fun h => nomatch h), fun _ => by rw [hf]; exact Least.one ltP_swo y.pu, hs⟩ (by show _ - _ < _ - _; omega))
   | (have hm : y.au = a ∧ y.n = 0 := ⟨of_decide_eq_true h25, of_decide_eq_true h33⟩
      have hok : ok = true := by simpa using h36
      have hls := Least.snoc ltP_swo (y := y.pu) (h1 hok)
      rw [h45, if_pos rfl] at hls
      exact X.again (k + 1, true, y.pu) ⟨rfl, rfl, rfl, rfl, rfl, trivial⟩ ⟨by omega, (fun h => nomatch h), fun _ => by rw [take_snoc hy, firsts_snoc, if_pos hm]; exact hls, hs⟩ (by show _ - _ < _ - _; omega))
   | (have hm : y.au = a ∧ y.n = 0 := ⟨of_decide_eq_true h25, of_decide_eq_true h33⟩
      have hok : ok = true := by simpa using h36
      have hls := Least.snoc ltP_swo (y := y.pu) (h1 hok)
      rw [h45, if_neg (by decide)] at hls
      exact X.again (k + 1, ok, q) ⟨rfl, rfl, rfl, rfl, rfl, trivial⟩ ⟨by omega, fun h => absurd (hok.symm.trans h) (by decide), fun _ => by rw [take_snoc hy, firsts_snoc, if_pos hm]; exact hls, hs⟩ (by show _ - _ < _ - _; omega))
 refine C.exit (X.thenExit (X.loopExit (X.blockExit (X.next (C.seq (C.region ?_))))))
 have hkl : L.take k = L := List.take_of_length_le (by omega)
 rw [hkl] at h0 h1
 refine R.ev rfl (E.assign rfl) (R.done (X.keep [(0, _), (3, _), (5, _), (6, _), (8, _)] ⟨rfl, rfl, rfl, rfl, rfl, trivial⟩ (X.next (C.seq (C.seq (C.region (R.ev rfl (E.assign rfl) (R.done ?_))))))))
 refine X.keep [(0, _), (3, _), (5, _), (6, _), (8, _), (9, _)] ⟨rfl, rfl, rfl, rfl, rfl, rfl, trivial⟩ (X.next (C.block ?_))
 refine C.loop (T := Bool × PK × Nat × List KY × Value × Hl) [(0, _), (3, _), (5, _)] (fun (ok, _, m, _, v, _) => [(6, .bool ok), (8, v), (9, .int .i64 (m : Nat))]) (fun (ok, q, m, cp, v, F1) w' => cp.length = m ∧ RowL 72 encK 51 v cp F1 ∧ (ok = true → (∀ c, ChR L a (m : Nat) q c → ChA L a (cp ++ c)) ∧ m + cntN L (m : Nat) ≤ L.length) ∧ (ok = false → ChA L a cp) ∧ Sat K w' (row b5 31 (encP q) :: F1 :: row b3 28 (a.1.map ub) :: Hs)) (fun (ok, _, m, _) => cond ok (cntN L (m : Nat) + 1) 0) ((ok, q, 0, [], .slice none 0 0, [])) ⟨rfl, rfl, rfl, rfl, rfl, rfl, trivial⟩ ⟨rfl, RowL.nil _ _ _, fun h => ⟨fun c hc => .inr ⟨q, h1 h, hc⟩, by have := cntN_le L ((0 : Nat) : Int); omega⟩, fun h => .inl ⟨h0 h, rfl⟩, hs.nil.to⟩ ?_
 rintro ⟨ok, q, m, cp, v8, F8⟩ w8 ⟨hml, r8, hok, hno, hs⟩
 have l3 := encP_len q
 refine C.keep [(0, _), (3, _), (5, _), (6, _), (8, _), (9, _)] ⟨rfl, rfl, rfl, rfl, rfl, rfl, trivial⟩ (C.seq (C.seq (C.region (R.ev rfl (E.move rfl) (R.done (X.keep [(0, _), (3, _), (5, _), (8, _), (9, _), (51, _)] ⟨rfl, rfl, rfl, rfl, rfl, rfl, trivial⟩ (X.next ?_)))))))
 refine C.cbool rfl (fun h51 => ?_) (fun h51 => ?_)
 refine C.skip (X.next (C.seq (C.block (C.seq (C.region ?_)))))
 obtain ⟨hch, hcn⟩ := hok h51
 refine R.ev rfl (E.move rfl) (R.ev rfl (E.loadRowC rfl Tryz.underlying31 rfl Tryz.sz31 (by exact ⟨hs.ldA, by assumption⟩)) ?_)
 refine R.ev rfl (E.buildG (r := encK ⟨(m : Int), q, -1, kvz⟩) rfl Tryz.underlying72 Tryz.zr72 Tryz.ql72 (by kernel_rfl) (by kernel_rfl) ⟨⟨_, rfl, by rfl⟩, ⟨_, rfl, by simp [Value.cells, *]⟩, ⟨_, rfl, by rfl⟩, trivial⟩ (by rfl)) ?_
 refine R.sallocA hs Tryz.zr72 rfl ?_
 intro b10 w10 hs
 refine R.cstoreAll hs rfl rfl Tryz.sz72 (by rfl) (by exact Enc.len _) (by exact Enc.one _) ?_
 intro w12_4 hs
 try simp only [List.set_cons_zero, List.set_cons_succ] at hs
 refine R.done (X.keep [(0, _), (3, _), (5, _), (8, _), (9, _), (10, _)] ⟨rfl, rfl, rfl, rfl, rfl, rfl, trivial⟩ (X.next (C.seq (C.region (R.ev rfl (E.move rfl) (R.ev rfl (E.loadRowC rfl Tryz.underlying28 rfl Tryz.sz28 (by exact ⟨hs.ldA, by assumption⟩)) (R.ev rfl (E.move rfl) (R.ev rfl (E.loadRowC rfl Tryz.underlying31 rfl Tryz.sz31 (by exact ⟨hs.ldA, by assumption⟩)) ?_))))))))
 refine R.call ⟨_, _, Tryz.func22, rfl, by kernel_rfl⟩ rfl rfl (rend_any a (m : Int) q hs hL) ?_
 rintro _ w13 ⟨z, rfl, hz, hs⟩
 refine R.ev rfl (E.assign rfl) (R.done (X.keep [(0, _), (3, _), (5, _), (8, _), (9, _), (10, _), (11, _)] ⟨rfl, rfl, rfl, rfl, rfl, rfl, rfl, trivial⟩ (X.next (C.seq (C.seq (C.region (R.ev rfl (E.move rfl) (R.ev rfl (E.geq rfl rfl) ?_))))))))
 refine R.done (X.keep [(0, _), (3, _), (5, _), (8, _), (9, _), (10, _), (11, _), (63, _)] ⟨rfl, rfl, rfl, rfl, rfl, rfl, rfl, rfl, trivial⟩ (X.next ?_))
 refine C.cdec rfl (fun h63 => ?_) (fun h63 => ?_)
 obtain ⟨i, e, rfl, hi, he⟩ : ∃ (i : Nat) (e : RO), z = i ∧ L[i]? = some e ∧ Least ltO (ends L a m q) e := by
   rcases hz with ⟨rfl, _⟩ | h
   · exact absurd h63 (by decide)
   · exact h
 have hil := (List.getElem?_eq_some_iff.1 hi).1
 obtain ⟨y, bk_y, of_y, hy, my, ly, rfl, Ay⟩ := (hs.to (Hs := [])).el (i := i) (ad := ad) (n := L.length) (c := cap) hil
 obtain rfl : e = y := Option.some.inj (hi.symm.trans hy)
 refine C.drawn (fun w1 => Sat K w1 []) ([4, 9, 14], [0, 1, 2, 3, 5, 6, 7, 8, 10, 11, 12, 13, 15, 17]) (by kernel_rfl) ?_
 have hs := hs.drew
 refine D.evP 0 rfl (by kernel_rfl) rfl (fun _ => hs.to) (fun _ => E.move rfl) (D.evP 1 rfl (by kernel_rfl) rfl (fun _ => hs.to) (fun _ => E.move rfl) ?_)
 refine D.evP 2 rfl (by kernel_rfl) rfl (fun _ => hs.to) (fun _ => E.indexAddr (i := i) rfl rfl Tryz.underlying25 Tryz.sz69 rfl hil) ?_
 refine D.evP 3 rfl (by kernel_rfl) rfl (fun _ => hs.to) (fun _ => E.fieldAddrN 66 rfl Tryz.underlying69 rfl Tryz.sz3 rfl) (D.evP 5 rfl (by kernel_rfl) rfl (fun _ => hs.to) (fun _ => E.move rfl) (D.evP 6 rfl (by kernel_rfl) rfl (fun _ => hs.to) (fun _ => E.move rfl) ?_))
 refine D.evP 7 rfl (by kernel_rfl) rfl (fun _ => hs.to) (fun _ => E.indexAddr (i := i) rfl rfl Tryz.underlying25 Tryz.sz69 rfl hil) ?_
 refine D.evP 8 rfl (by kernel_rfl) rfl (fun _ => hs.to) (fun _ => E.fieldAddrN 0 rfl Tryz.underlying69 rfl Tryz.sz36 rfl) (D.evP 10 rfl (by kernel_rfl) rfl (fun _ => hs.to) (fun _ => E.move rfl) (D.evP 11 rfl (by kernel_rfl) rfl (fun _ => hs.to) (fun _ => E.move rfl) ?_))
 refine D.evP 12 rfl (by kernel_rfl) rfl (fun _ => hs.to) (fun _ => E.indexAddr (i := i) rfl rfl Tryz.underlying25 Tryz.sz69 rfl hil) ?_
 refine D.evP 13 rfl (by kernel_rfl) rfl (fun _ => hs.to) (fun _ => E.fieldAddrN 67 rfl Tryz.underlying69 rfl Tryz.sz31 rfl) (D.ev 4 rfl (by kernel_rfl) rfl hs.to (fun _ hS => E.load1 rfl Tryz.underlying3 rfl (by exact At.cellC ((by assumption : ∀ w', Sat _ w' _ → At w' _ _ _) _ hS))) (D.evP 15 rfl (by kernel_rfl) rfl (fun _ => hs.to) (fun _ => E.fieldAddr0 18 rfl Tryz.underlying72 rfl Tryz.sz3 rfl) (D.ev 9 rfl (by kernel_rfl) rfl hs.to (fun _ hS => E.loadRowC rfl Tryz.underlying36 rfl Tryz.sz36 (by exact At.partC ((by assumption : ∀ w', Sat _ w' _ → At w' _ _ _) _ hS))) (D.ev 14 rfl (by kernel_rfl) rfl hs.to (fun _ hS => E.loadRowC rfl Tryz.underlying31 rfl Tryz.sz31 (by exact At.partC ((by assumption : ∀ w', Sat _ w' _ → At w' _ _ _) _ hS))) (D.act 16 rfl (by kernel_rfl) ?_)))))
 refine R.cstore1 (b := b10) hs rfl rfl Tryz.sz3 (by rw [encK_len]; decide) rfl ?_
 intro w1516 hs
 rw [encK_lim] at hs
 dsimp only at hs
 refine D.back hs.to (D.evP 17 rfl (by kernel_rfl) rfl (fun _ => hs.to) (fun _ => E.fieldAddr0 19 rfl Tryz.underlying72 rfl Tryz.sz36 rfl) (D.act 18 rfl (by kernel_rfl) ?_))
 refine R.cstore (b := b10) hs rfl rfl Tryz.sz36 (encV_len _) (by rw [encK_len]; decide) (ub_all _) ?_
 intro w1518 hs
 rw [encK_nx] at hs
 dsimp only at hs
 refine D.back hs.to (D.act 19 rfl (by kernel_rfl) ?_)
 refine R.cstoreAll (b := b5) hs rfl rfl Tryz.sz31 (encP_len _) (encP_len _) (encP_one _) ?_
 intro w1519 hs
 refine D.backT (by kernel_rfl) (D.done rfl (by kernel_rfl) (X.keep [(0, _), (3, _), (5, _), (8, _), (9, _), (10, _), (11, _)] ⟨rfl, rfl, rfl, rfl, rfl, rfl, rfl, trivial⟩ (X.next (C.seq (C.region (R.ev rfl (E.move rfl) (R.ev rfl (E.geq rfl rfl) (R.ev rfl (E.assign rfl) ?_))))))))
 refine R.done (X.keep [(0, _), (3, _), (5, _), (6, _), (8, _), (9, _), (10, _)] ⟨rfl, rfl, rfl, rfl, rfl, rfl, rfl, trivial⟩ (X.next (C.region (R.ev rfl (E.move rfl) (R.ev rfl (E.loadRowC rfl Tryz.underlying72 rfl Tryz.sz72 (by exact ⟨hs.ldA, by exact Enc.len _⟩)) (R.buildSliceA rfl Tryz.underlying33 Tryz.sz72 Tryz.zr72 rfl (by exact Enc.len _) (by decide) (by decide) ?_))))))
 intro b85 w85 n85
 have hs := hs.new n85
 refine R.capp1 (_) hs rfl rfl Tryz.underlying33 Tryz.by72 (by rfl) rfl (by exact hs.ldA) (by decide) (by omega) (by omega) ?_
 intro v86 w86 F86 r86 hs
 refine R.ev rfl (E.assign rfl) (R.done (X.keep [(0, _), (3, _), (5, _), (6, _), (8, _), (9, _)] ⟨rfl, rfl, rfl, rfl, rfl, rfl, trivial⟩ (X.blockNormal (X.next (C.region (R.ev rfl (E.move rfl) ?_))))))
 refine R.ev rfl ((E.add rfl rfl (by omega) (by omega)).isI (c := ((m + 1 : Nat) : Int)) (by omega)) ?_
 refine R.ev rfl (E.assign rfl) (R.done (X.keep [(0, _), (3, _), (5, _), (6, _), (8, _), (9, _)] ⟨rfl, rfl, rfl, rfl, rfl, rfl, trivial⟩ ?_))
 (have hmm := mem_ends.1 he.mem
  have hc2 := cntN_lt hmm.1 hmm.2.2.1
  refine X.again (_, e.nw, m + 1, _, v86, F86) ⟨rfl, rfl, rfl, rfl, rfl, rfl, trivial⟩ ⟨by rw [List.length_append, hml]; rfl, r86, fun _ => ⟨fun c hc => ?_, ?_⟩, fun h => absurd ((decide_eq_true h63).symm.trans h) (by decide), hs.to⟩ ?_
  · rw [List.append_assoc]
    exact hch _ (ChR.cons he hc)
  · push_cast; omega
  · show cond _ _ _ < cond ok _ _
    rw [decide_eq_true h63, h51]; simp only [cond_true]; push_cast; omega)
 have hz0 : ends L a m q = [] := by
   rcases hz with ⟨_, h⟩ | ⟨i, e, rfl, _⟩
   · exact h
   · exact absurd (Int.natCast_nonneg i) h63
 refine C.skip (X.next (C.seq (C.region (R.ev rfl (E.move rfl) (R.ev rfl (E.geq rfl rfl) (R.ev rfl (E.assign rfl) (R.done (X.keep [(0, _), (3, _), (5, _), (6, _), (8, _), (9, _), (10, _)] ⟨rfl, rfl, rfl, rfl, rfl, rfl, rfl, trivial⟩ ?_))))))))
 refine X.next (C.region (R.ev rfl (E.move rfl) (R.ev rfl (E.loadRowC rfl Tryz.underlying72 rfl Tryz.sz72 (by exact ⟨hs.ldA, by exact Enc.len _⟩)) (R.buildSliceA rfl Tryz.underlying33 Tryz.sz72 Tryz.zr72 rfl (by exact Enc.len _) (by decide) (by decide) ?_))))
 intro b85 w85 n85
 have hs := hs.new n85
 refine R.capp1 (_) hs rfl rfl Tryz.underlying33 Tryz.by72 (by rfl) rfl (by exact hs.ldA) (by decide) (by omega) (by omega) ?_
 intro v86 w86 F86 r86 hs
 refine R.ev rfl (E.assign rfl) (R.done (X.keep [(0, _), (3, _), (5, _), (6, _), (8, _), (9, _)] ⟨rfl, rfl, rfl, rfl, rfl, rfl, trivial⟩ (X.blockNormal (X.next (C.region (R.ev rfl (E.move rfl) ?_))))))
 refine R.ev rfl ((E.add rfl rfl (by omega) (by omega)).isI (c := ((m + 1 : Nat) : Int)) (by omega)) ?_
 refine R.ev rfl (E.assign rfl) (R.done (X.keep [(0, _), (3, _), (5, _), (6, _), (8, _), (9, _)] ⟨rfl, rfl, rfl, rfl, rfl, rfl, trivial⟩ ?_))
 (refine X.again (_, q, m + 1, _, v86, F86) ⟨rfl, rfl, rfl, rfl, rfl, rfl, trivial⟩ ⟨by rw [List.length_append, hml]; rfl, r86, fun h => absurd ((decide_eq_false h63).symm.trans h) (by decide), fun _ => hch _ (ChR.last hz0), hs.to⟩ ?_
  show cond _ _ _ < cond ok _ _
  rw [decide_eq_false h63, h51]; simp only [cond_true, cond_false]; omega)
 refine C.exit (X.thenExit (X.loopExit (X.blockExit (X.next (C.seq (C.region (R.ev rfl (E.move rfl) (R.ev rfl (E.assign rfl) ?_))))))))
 refine R.done (X.keep [(4, _)] ⟨rfl, trivial⟩ (X.next (C.ret (X.ret1 rfl rfl ?_))))
 exact ⟨cp, F8, r8, hno h51, hs.to⟩
end Go.Proofs.YtbkgibgomohdjaaGreatDoor
namespace Go.Proofs.YtbkgibgomohdjaaGreatDoor
open Go.Eng Go.RowKit Go.Sort
variable {K : Kn} {Hs Rs : List Hl} {F : Hl} {w : World} {v : Value} {L : List RO}
theorem chA_lim {a : Vec 16} {c : List KY} (hL : LOk L) (h : ChA L a c) : ∀ k ∈ c, k.lim = -1 ∨ 0 ≤ k.lim := by
 rcases h with ⟨_, rfl⟩ | ⟨q, _, hc⟩
 · simp
 · intro k hk
   rcases hc.lim k hk with ⟨h1, _⟩ | ⟨e, he, _, _, _, hl, _⟩
   · exact .inl h1
   · exact .inr (by rw [← hl]; exact (hL.good e he).leaf)
theorem judge_in {c : List KY} {a : Vec 16} {n : Int} {q : PK} {leaf : Int} {id : Vec 32} {m : Nat} {y : KY} (hn : n = m) (hy : c[m]? = some y) : judge c a n q leaf id = if y.pu ≠ q then 2 else if y.lim ≠ -1 ∧ (y.lim < leaf ∨ (leaf = y.lim ∧ id ≠ y.nx)) then 3 else 0 := by
 subst hn
 have := (List.getElem?_eq_some_iff.1 hy).1
 unfold judge
 rw [if_pos (by omega), Int.toNat_natCast, hy]
theorem judge_out {c : List KY} {a : Vec 16} {n : Int} {q : PK} {leaf : Int} {id : Vec 32} (h : ¬ (0 ≤ n ∧ n < c.length)) : judge c a n q leaf id = if n ≠ 0 then 1 else if fine q = true ∧ ofP q = a then 0 else 2 := by
 unfold judge; rw [if_neg h]
end Go.Proofs.YtbkgibgomohdjaaGreatDoor
