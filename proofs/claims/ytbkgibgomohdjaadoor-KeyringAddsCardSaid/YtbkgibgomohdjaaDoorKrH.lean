/-
  Chapter 19, the reference: Chain, Judge.
-/
import Derived.Test.YtbkgibgomohdjaaDoorKrG
namespace Go.Proofs.YtbkgibgomohdjaaDoor
open Go.Eng Go.RowKit Go.Sort
variable {K : Kn} {Hs Rs : List Hl} {F : Hl} {w : World} {v : Value} {L : List RO}
theorem firsts_snoc {M : List RO} {a : Vec 16} {y : RO} : firsts (M ++ [y]) a = firsts M a ++ if y.au = a ∧ y.n = 0 then [y.pu] else [] := by
  unfold firsts slotL
  rw [List.filter_append, List.map_append]
  congr 1
  by_cases h : y.au = a ∧ y.n = 0
  · rw [List.filter_cons_of_pos (by simp [atS, h.1, h.2]), if_pos h]; rfl
  · rw [List.filter_cons_of_neg (by simpa [atS] using h), if_neg h]; rfl
theorem rchain_any (a : Vec 16) (hs : Sat K w Hs) [hr : KRow encO 84 K v L] (hL : L.length ≤ 100000) : Ret Tryd.prog 18 #[v, idV a.1] w fun r w' => ∃ c F', RowL 49 encK 51 r c F' ∧ ChA L a c ∧ Sat K w' (F' :: Hs) := by
  obtain ⟨ad, cap, rfl, hsl, hc⟩ := hr.ex
  have e1 := encV_len a
  refine Ret.enter (n := 88) (args := [.slice ad L.length cap, idV a.1]) Tryd.func18 rfl rfl ?_
  refine C.keep [(0, _), (1, _)] ⟨rfl, rfl, trivial⟩ ?_
  refine C.seq ?_
  refine C.region ?_
  refine R.sboxA hs rfl rfl ?_
  intro b3 w3 hs
  refine R.ev rfl (E.assign rfl) ?_
  refine R.done ?_
  refine X.keep [(0, _), (3, _)] ⟨rfl, rfl, trivial⟩ ?_
  refine X.next ?_
  refine C.seq ?_
  refine C.region ?_
  refine R.sallocA hs Tryd.zr32 rfl ?_
  intro b5 w5 hs
  have hs : Sat K w5 (row b5 32 (encP pz) :: row b3 29 (a.1.map ub) :: Hs) := hs
  refine R.done ?_
  refine X.keep [(0, _), (3, _), (5, _)] ⟨rfl, rfl, rfl, trivial⟩ ?_
  refine X.next ?_
  refine C.seq ?_
  refine C.region ?_
  refine R.ev rfl (E.assign rfl) ?_
  refine R.done ?_
  refine X.keep [(0, _), (3, _), (5, _), (6, _)] ⟨rfl, rfl, rfl, rfl, trivial⟩ ?_
  refine X.next ?_
  refine C.seq ?_
  refine C.seq ?_
  refine C.region ?_
  refine R.ev rfl (E.assign rfl) ?_
  refine R.done ?_
  refine X.keep [(0, _), (3, _), (5, _), (6, _), (7, _)] ⟨rfl, rfl, rfl, rfl, rfl, trivial⟩ ?_
  refine X.next ?_
  refine C.block ?_
  refine C.loop (T := Nat × Bool × PK) [(0, _), (3, _), (5, _)] (fun (k, ok, _) => [(6, .bool ok), (7, .int .i64 (k : Nat))]) (fun (k, ok, q) w' => k ≤ L.length ∧ (ok = false → firsts (L.take k) a = []) ∧ (ok = true → Least ltP (firsts (L.take k) a) q) ∧ Sat K w' (row b5 32 (encP q) :: row b3 29 (a.1.map ub) :: Hs)) (fun (k, _) => L.length - k) ((0, false, pz)) ⟨rfl, rfl, rfl, rfl, rfl, trivial⟩ ⟨Nat.zero_le _, fun _ => rfl, (fun h => nomatch h), hs⟩ ?_
  rintro ⟨k, ok, q⟩ w1 ⟨hk, h0, h1, hs⟩
  refine C.keep [(0, _), (3, _), (5, _), (6, _), (7, _)] ⟨rfl, rfl, rfl, rfl, rfl, trivial⟩ ?_
  refine C.seq ?_
  refine C.seq ?_
  refine C.region ?_
  refine R.ev rfl (E.move rfl) ?_
  refine R.ev rfl (E.move rfl) ?_
  refine R.ev rfl (E.lenSl rfl Tryd.underlying26) ?_
  refine R.ev rfl (E.lss rfl rfl) ?_
  refine R.done ?_
  refine X.keep [(0, _), (3, _), (5, _), (6, _), (7, _), (15, _)] ⟨rfl, rfl, rfl, rfl, rfl, rfl, trivial⟩ ?_
  refine X.next ?_
  refine C.cdec rfl (fun h15 => ?_) (fun h15 => ?_)
  obtain ⟨y, bk_y, of_y, hy, my, ly, rfl, Ay⟩ := hs.el (i := k) (ad := ad) (n := L.length) (c := cap) (by omega)
  have ay := Ay _ hs
  refine C.skip ?_
  refine X.next ?_
  refine C.seq ?_
  refine C.block ?_
  refine C.seq ?_
  refine C.drawn (SatS hs) ([4, 5, 12, 23, 24], [0, 1, 2, 3, 6, 7, 8, 9, 10, 11, 13, 14, 15, 16, 17, 18, 19, 20, 21, 22, 26, 27]) (by kernel_rfl) ?_
  have hs := hs.drew
  refine D.evP 0 rfl (by kernel_rfl) rfl (fun _ => hs.to) (fun _ => E.move rfl) ?_
  refine D.evP 1 rfl (by kernel_rfl) rfl (fun _ => hs.to) (fun _ => E.move rfl) ?_
  refine D.evP 2 rfl (by kernel_rfl) rfl (fun _ => hs.to) (fun _ => E.indexAddr (i := k) rfl rfl Tryd.underlying26 Tryd.sz45 rfl (by omega)) ?_
  refine D.evP 3 rfl (by kernel_rfl) rfl (fun _ => hs.to) (fun _ => E.fieldAddrN 32 rfl Tryd.underlying45 rfl Tryd.sz29 rfl) ?_
  refine D.ev 4 rfl (by kernel_rfl) rfl hs.to (fun _ hS => E.loadRowC rfl Tryd.underlying29 rfl Tryd.sz29 (by exact At.partC ((by assumption : ∀ w', Sat _ w' _ → At w' _ _ _) _ hS))) ?_
  refine D.ev 5 rfl (by kernel_rfl) rfl hs.to (fun _ hS => E.loadRowC rfl Tryd.underlying29 rfl Tryd.sz29 (by exact ⟨hS.ldA, by assumption⟩)) ?_
  refine D.evP 6 rfl (by kernel_rfl) rfl (fun _ => hs.to) (fun _ => E.eqV 10 rfl rfl Tryd.lv29 rfl Tryd.underlying29 rfl Tryd.gd29) ?_
  refine D.evP 7 rfl (by kernel_rfl) rfl (fun _ => hs.to) (fun _ => E.move rfl) ?_
  refine D.split 25 rfl (fun h25 => ?_) (fun h25 => ?_)
  refine D.evPG 8 rfl (by kernel_rfl) rfl rfl rfl (fun _ => hs.to) (fun _ => E.move rfl) ?_
  refine D.evPG 9 rfl (by kernel_rfl) rfl rfl rfl (fun _ => hs.to) (fun _ => E.move rfl) ?_
  refine D.evPG 10 rfl (by kernel_rfl) rfl rfl rfl (fun _ => hs.to) (fun _ => E.indexAddr (i := k) rfl rfl Tryd.underlying26 Tryd.sz45 rfl (by omega)) ?_
  refine D.evPG 11 rfl (by kernel_rfl) rfl rfl rfl (fun _ => hs.to) (fun _ => E.fieldAddrN 48 rfl Tryd.underlying45 rfl Tryd.sz3 rfl) ?_
  refine D.evG 12 rfl (by kernel_rfl) rfl rfl rfl hs.to (fun _ hS => E.load1 rfl Tryd.underlying3 rfl (by exact At.cellC ((by assumption : ∀ w', Sat _ w' _ → At w' _ _ _) _ hS))) ?_
  refine D.evPG 13 rfl (by kernel_rfl) rfl rfl rfl (fun _ => hs.to) (fun _ => E.eql rfl rfl) ?_
  refine D.evP 14 rfl (by kernel_rfl) rfl (fun _ => hs.to) (fun _ => E.pickT rfl rfl) ?_
  refine D.evP 15 rfl (by kernel_rfl) rfl (fun _ => hs.to) (fun _ => E.move rfl) ?_
  refine D.split 33 rfl (fun h33 => ?_) (fun h33 => ?_)
  refine D.evPG 16 rfl (by kernel_rfl) rfl rfl rfl (fun _ => hs.to) (fun _ => E.move rfl) ?_
  refine D.evPG 17 rfl (by kernel_rfl) rfl rfl rfl (fun _ => hs.to) (fun _ => E.not rfl) ?_
  refine D.evPG 18 rfl (by kernel_rfl) rfl rfl rfl (fun _ => hs.to) (fun _ => E.move rfl) ?_
  refine D.split 36 rfl (fun h36 => ?_) (fun h36 => ?_)
  refine D.skipP 19 rfl (by kernel_rfl) rfl rfl rfl (fun _ => hs.to) ?_
  refine D.skipP 20 rfl (by kernel_rfl) rfl rfl rfl (fun _ => hs.to) ?_
  refine D.skipP 21 rfl (by kernel_rfl) rfl rfl rfl (fun _ => hs.to) ?_
  refine D.skipP 22 rfl (by kernel_rfl) rfl rfl rfl (fun _ => hs.to) ?_
  refine D.skip 23 rfl (by kernel_rfl) rfl rfl rfl hs.to ?_
  refine D.skip 24 rfl (by kernel_rfl) rfl rfl rfl hs.to ?_
  refine D.act 25 rfl (by kernel_rfl) ?_
  refine R.gskip rfl rfl rfl ?_
  refine D.backT (by kernel_rfl) ?_
  refine D.evPG 26 rfl (by kernel_rfl) rfl rfl rfl (np (by kernel_rfl)) (fun _ => E.pickT rfl rfl) ?_
  refine D.evP 27 rfl (by kernel_rfl) rfl (np (by kernel_rfl)) (fun _ => E.pickT rfl rfl) ?_
  refine D.done rfl (by kernel_rfl) ?_
  refine X.keep [(0, _), (3, _), (5, _), (6, _), (7, _), (45, _)] ⟨rfl, rfl, rfl, rfl, rfl, rfl, trivial⟩ ?_
  refine X.next ?_
  refine C.ctrue rfl ?_
  refine C.region ?_
  refine R.ev rfl (E.move rfl) ?_
  refine R.ev rfl (E.move rfl) ?_
  have ay := Ay _ hs
  refine R.ev rfl (E.indexAddr (i := k) rfl rfl Tryd.underlying26 Tryd.sz45 rfl (by omega)) ?_
  refine R.ev rfl (E.fieldAddrN 49 rfl Tryd.underlying45 rfl Tryd.sz32 rfl) ?_
  refine R.ev rfl (E.loadRowC rfl Tryd.underlying32 rfl Tryd.sz32 (by exact At.partC (by assumption))) ?_
  refine R.cstoreAll hs rfl rfl Tryd.sz32 (by exact Enc.len _) (by exact Enc.len _) (by exact Enc.one _) ?_
  intro w7_5 hs
  try simp only [List.set_cons_zero, List.set_cons_succ] at hs
  refine R.ev rfl (E.assign rfl) ?_
  refine R.done ?_
  refine X.keep [(0, _), (3, _), (5, _), (6, _), (7, _)] ⟨rfl, rfl, rfl, rfl, rfl, trivial⟩ ?_
  refine X.blockNormal ?_
  refine X.next ?_
  refine C.region ?_
  refine R.ev rfl (E.move rfl) ?_
  refine R.ev rfl (E.add rfl rfl (by omega) (by omega)) ?_
  refine R.ev rfl (E.assign rfl) ?_
  refine R.done ?_
  refine X.keep [(0, _), (3, _), (5, _), (6, _), (7, _)] ⟨rfl, rfl, rfl, rfl, rfl, trivial⟩ ?_
  first
    | (have hm : ¬ (y.au = a ∧ y.n = 0) := by
         first
           | exact fun g => of_decide_eq_false h25 g.1
           | exact fun g => of_decide_eq_false h33 g.2
       have hf : firsts (L.take (k + 1)) a = firsts (L.take k) a := by rw [take_snoc hy, firsts_snoc, if_neg hm, List.append_nil]
       exact X.again (k + 1, ok, q) ⟨rfl, rfl, rfl, rfl, rfl, trivial⟩ ⟨by omega, by rw [hf]; exact h0, by rw [hf]; exact h1, hs⟩ (by show _ - _ < _ - _; omega))
    | (have hm : y.au = a ∧ y.n = 0 := ⟨of_decide_eq_true h25, of_decide_eq_true h33⟩
       have hok : ok = false := by simpa using h36
       have hf : firsts (L.take (k + 1)) a = [y.pu] := by rw [take_snoc hy, firsts_snoc, if_pos hm, h0 hok]; rfl
       exact X.again (k + 1, true, y.pu) ⟨rfl, rfl, rfl, rfl, rfl, trivial⟩ ⟨by omega, (fun h => nomatch h), fun _ => by rw [hf]; exact Least.one ltP_swo y.pu, hs⟩ (by show _ - _ < _ - _; omega))
    | (have hm : y.au = a ∧ y.n = 0 := ⟨of_decide_eq_true h25, of_decide_eq_true h33⟩
       have hok : ok = true := by simpa using h36
       have hls := Least.snoc ltP_swo (y := y.pu) (h1 hok)
       rw [h45, if_pos rfl] at hls
       exact X.again (k + 1, true, y.pu) ⟨rfl, rfl, rfl, rfl, rfl, trivial⟩ ⟨by omega, (fun h => nomatch h), fun _ => by rw [take_snoc hy, firsts_snoc, if_pos hm]; exact hls, hs⟩ (by show _ - _ < _ - _; omega))
    | (have hm : y.au = a ∧ y.n = 0 := ⟨of_decide_eq_true h25, of_decide_eq_true h33⟩
       have hok : ok = true := by simpa using h36
       have hls := Least.snoc ltP_swo (y := y.pu) (h1 hok)
       rw [h45, if_neg (by decide)] at hls
       exact X.again (k + 1, ok, q) ⟨rfl, rfl, rfl, rfl, rfl, trivial⟩ ⟨by omega, fun h => absurd (hok.symm.trans h) (by decide), fun _ => by rw [take_snoc hy, firsts_snoc, if_pos hm]; exact hls, hs⟩ (by show _ - _ < _ - _; omega))
  refine D.evPG 19 rfl (by kernel_rfl) rfl rfl rfl (fun _ => hs.to) (fun _ => E.move rfl) ?_
  refine D.evPG 20 rfl (by kernel_rfl) rfl rfl rfl (fun _ => hs.to) (fun _ => E.move rfl) ?_
  refine D.evPG 21 rfl (by kernel_rfl) rfl rfl rfl (fun _ => hs.to) (fun _ => E.indexAddr (i := k) rfl rfl Tryd.underlying26 Tryd.sz45 rfl (by omega)) ?_
  refine D.evPG 22 rfl (by kernel_rfl) rfl rfl rfl (fun _ => hs.to) (fun _ => E.fieldAddrN 49 rfl Tryd.underlying45 rfl Tryd.sz32 rfl) ?_
  refine D.evG 23 rfl (by kernel_rfl) rfl rfl rfl hs.to (fun _ hS => E.loadRowC rfl Tryd.underlying32 rfl Tryd.sz32 (by exact At.partC ((by assumption : ∀ w', Sat _ w' _ → At w' _ _ _) _ hS))) ?_
  refine D.evG 24 rfl (by kernel_rfl) rfl rfl rfl hs.to (fun _ hS => E.loadRowC rfl Tryd.underlying32 rfl Tryd.sz32 (by exact ⟨hS.ldA, by exact Enc.len _⟩)) ?_
  refine D.act 25 rfl (by kernel_rfl) ?_
  refine R.gyes rfl rfl ?_
  refine R.call ⟨_, _, Tryd.func39, rfl, by kernel_rfl⟩ rfl rfl (rless_any y.pu q hs) ?_
  rintro _ w625 ⟨rfl, hs⟩
  refine D.backT (by kernel_rfl) ?_
  refine D.evPG 26 rfl (by kernel_rfl) rfl rfl rfl (np (by kernel_rfl)) (fun _ => E.pickF rfl rfl) ?_
  refine D.evP 27 rfl (by kernel_rfl) rfl (np (by kernel_rfl)) (fun _ => E.pickT rfl rfl) ?_
  refine D.done rfl (by kernel_rfl) ?_
  refine X.keep [(0, _), (3, _), (5, _), (6, _), (7, _), (45, _)] ⟨rfl, rfl, rfl, rfl, rfl, rfl, trivial⟩ ?_
  refine X.next ?_
  refine C.cbool rfl (fun h45 => ?_) (fun h45 => ?_)
  refine C.region ?_
  refine R.ev rfl (E.move rfl) ?_
  refine R.ev rfl (E.move rfl) ?_
  have ay := Ay _ hs
  refine R.ev rfl (E.indexAddr (i := k) rfl rfl Tryd.underlying26 Tryd.sz45 rfl (by omega)) ?_
  refine R.ev rfl (E.fieldAddrN 49 rfl Tryd.underlying45 rfl Tryd.sz32 rfl) ?_
  refine R.ev rfl (E.loadRowC rfl Tryd.underlying32 rfl Tryd.sz32 (by exact At.partC (by assumption))) ?_
  refine R.cstoreAll hs rfl rfl Tryd.sz32 (by exact Enc.len _) (by exact Enc.len _) (by exact Enc.one _) ?_
  intro w7_5 hs
  try simp only [List.set_cons_zero, List.set_cons_succ] at hs
  refine R.ev rfl (E.assign rfl) ?_
  refine R.done ?_
  refine X.keep [(0, _), (3, _), (5, _), (6, _), (7, _)] ⟨rfl, rfl, rfl, rfl, rfl, trivial⟩ ?_
  refine X.blockNormal ?_
  refine X.next ?_
  refine C.region ?_
  refine R.ev rfl (E.move rfl) ?_
  refine R.ev rfl (E.add rfl rfl (by omega) (by omega)) ?_
  refine R.ev rfl (E.assign rfl) ?_
  refine R.done ?_
  refine X.keep [(0, _), (3, _), (5, _), (6, _), (7, _)] ⟨rfl, rfl, rfl, rfl, rfl, trivial⟩ ?_
  first
    | (have hm : ¬ (y.au = a ∧ y.n = 0) := by
         first
           | exact fun g => of_decide_eq_false h25 g.1
           | exact fun g => of_decide_eq_false h33 g.2
       have hf : firsts (L.take (k + 1)) a = firsts (L.take k) a := by rw [take_snoc hy, firsts_snoc, if_neg hm, List.append_nil]
       exact X.again (k + 1, ok, q) ⟨rfl, rfl, rfl, rfl, rfl, trivial⟩ ⟨by omega, by rw [hf]; exact h0, by rw [hf]; exact h1, hs⟩ (by show _ - _ < _ - _; omega))
    | (have hm : y.au = a ∧ y.n = 0 := ⟨of_decide_eq_true h25, of_decide_eq_true h33⟩
       have hok : ok = false := by simpa using h36
       have hf : firsts (L.take (k + 1)) a = [y.pu] := by rw [take_snoc hy, firsts_snoc, if_pos hm, h0 hok]; rfl
       exact X.again (k + 1, true, y.pu) ⟨rfl, rfl, rfl, rfl, rfl, trivial⟩ ⟨by omega, (fun h => nomatch h), fun _ => by rw [hf]; exact Least.one ltP_swo y.pu, hs⟩ (by show _ - _ < _ - _; omega))
    | (have hm : y.au = a ∧ y.n = 0 := ⟨of_decide_eq_true h25, of_decide_eq_true h33⟩
       have hok : ok = true := by simpa using h36
       have hls := Least.snoc ltP_swo (y := y.pu) (h1 hok)
       rw [h45, if_pos rfl] at hls
       exact X.again (k + 1, true, y.pu) ⟨rfl, rfl, rfl, rfl, rfl, trivial⟩ ⟨by omega, (fun h => nomatch h), fun _ => by rw [take_snoc hy, firsts_snoc, if_pos hm]; exact hls, hs⟩ (by show _ - _ < _ - _; omega))
    | (have hm : y.au = a ∧ y.n = 0 := ⟨of_decide_eq_true h25, of_decide_eq_true h33⟩
       have hok : ok = true := by simpa using h36
       have hls := Least.snoc ltP_swo (y := y.pu) (h1 hok)
       rw [h45, if_neg (by decide)] at hls
       exact X.again (k + 1, ok, q) ⟨rfl, rfl, rfl, rfl, rfl, trivial⟩ ⟨by omega, fun h => absurd (hok.symm.trans h) (by decide), fun _ => by rw [take_snoc hy, firsts_snoc, if_pos hm]; exact hls, hs⟩ (by show _ - _ < _ - _; omega))
  refine C.skip ?_
  refine X.blockNormal ?_
  refine X.next ?_
  refine C.region ?_
  refine R.ev rfl (E.move rfl) ?_
  refine R.ev rfl (E.add rfl rfl (by omega) (by omega)) ?_
  refine R.ev rfl (E.assign rfl) ?_
  refine R.done ?_
  refine X.keep [(0, _), (3, _), (5, _), (6, _), (7, _)] ⟨rfl, rfl, rfl, rfl, rfl, trivial⟩ ?_
  first
    | (have hm : ¬ (y.au = a ∧ y.n = 0) := by
         first
           | exact fun g => of_decide_eq_false h25 g.1
           | exact fun g => of_decide_eq_false h33 g.2
       have hf : firsts (L.take (k + 1)) a = firsts (L.take k) a := by rw [take_snoc hy, firsts_snoc, if_neg hm, List.append_nil]
       exact X.again (k + 1, ok, q) ⟨rfl, rfl, rfl, rfl, rfl, trivial⟩ ⟨by omega, by rw [hf]; exact h0, by rw [hf]; exact h1, hs⟩ (by show _ - _ < _ - _; omega))
    | (have hm : y.au = a ∧ y.n = 0 := ⟨of_decide_eq_true h25, of_decide_eq_true h33⟩
       have hok : ok = false := by simpa using h36
       have hf : firsts (L.take (k + 1)) a = [y.pu] := by rw [take_snoc hy, firsts_snoc, if_pos hm, h0 hok]; rfl
       exact X.again (k + 1, true, y.pu) ⟨rfl, rfl, rfl, rfl, rfl, trivial⟩ ⟨by omega, (fun h => nomatch h), fun _ => by rw [hf]; exact Least.one ltP_swo y.pu, hs⟩ (by show _ - _ < _ - _; omega))
    | (have hm : y.au = a ∧ y.n = 0 := ⟨of_decide_eq_true h25, of_decide_eq_true h33⟩
       have hok : ok = true := by simpa using h36
       have hls := Least.snoc ltP_swo (y := y.pu) (h1 hok)
       rw [h45, if_pos rfl] at hls
       exact X.again (k + 1, true, y.pu) ⟨rfl, rfl, rfl, rfl, rfl, trivial⟩ ⟨by omega, (fun h => nomatch h), fun _ => by rw [take_snoc hy, firsts_snoc, if_pos hm]; exact hls, hs⟩ (by show _ - _ < _ - _; omega))
    | (have hm : y.au = a ∧ y.n = 0 := ⟨of_decide_eq_true h25, of_decide_eq_true h33⟩
       have hok : ok = true := by simpa using h36
       have hls := Least.snoc ltP_swo (y := y.pu) (h1 hok)
       rw [h45, if_neg (by decide)] at hls
       exact X.again (k + 1, ok, q) ⟨rfl, rfl, rfl, rfl, rfl, trivial⟩ ⟨by omega, fun h => absurd (hok.symm.trans h) (by decide), fun _ => by rw [take_snoc hy, firsts_snoc, if_pos hm]; exact hls, hs⟩ (by show _ - _ < _ - _; omega))
  refine D.skipP 16 rfl (by kernel_rfl) rfl rfl rfl (fun _ => hs.to) ?_
  refine D.skipP 17 rfl (by kernel_rfl) rfl rfl rfl (fun _ => hs.to) ?_
  refine D.skipP 18 rfl (by kernel_rfl) rfl rfl rfl (fun _ => hs.to) ?_
  refine D.undefP 19 rfl (by kernel_rfl) rfl rfl (fun _ => hs.to) ?_
  refine D.undefP 20 rfl (by kernel_rfl) rfl rfl (fun _ => hs.to) ?_
  refine D.undefP 21 rfl (by kernel_rfl) rfl rfl (fun _ => hs.to) ?_
  refine D.undefP 22 rfl (by kernel_rfl) rfl rfl (fun _ => hs.to) ?_
  refine D.undef 23 rfl (by kernel_rfl) rfl rfl hs.to ?_
  refine D.undef 24 rfl (by kernel_rfl) rfl rfl hs.to ?_
  refine D.act 25 rfl (by kernel_rfl) ?_
  refine R.gundef rfl rfl ?_
  refine D.backT (by kernel_rfl) ?_
  refine D.skipP 26 rfl (by kernel_rfl) rfl rfl rfl (np (by kernel_rfl)) ?_
  refine D.evP 27 rfl (by kernel_rfl) rfl (np (by kernel_rfl)) (fun _ => E.pickF rfl rfl) ?_
  refine D.done rfl (by kernel_rfl) ?_
  refine X.keep [(0, _), (3, _), (5, _), (6, _), (7, _), (45, _)] ⟨rfl, rfl, rfl, rfl, rfl, rfl, trivial⟩ ?_
  refine X.next ?_
  refine C.cfalse rfl ?_
  refine C.skip ?_
  refine X.blockNormal ?_
  refine X.next ?_
  refine C.region ?_
  refine R.ev rfl (E.move rfl) ?_
  refine R.ev rfl (E.add rfl rfl (by omega) (by omega)) ?_
  refine R.ev rfl (E.assign rfl) ?_
  refine R.done ?_
  refine X.keep [(0, _), (3, _), (5, _), (6, _), (7, _)] ⟨rfl, rfl, rfl, rfl, rfl, trivial⟩ ?_
  first
    | (have hm : ¬ (y.au = a ∧ y.n = 0) := by
         first
           | exact fun g => of_decide_eq_false h25 g.1
           | exact fun g => of_decide_eq_false h33 g.2
       have hf : firsts (L.take (k + 1)) a = firsts (L.take k) a := by rw [take_snoc hy, firsts_snoc, if_neg hm, List.append_nil]
       exact X.again (k + 1, ok, q) ⟨rfl, rfl, rfl, rfl, rfl, trivial⟩ ⟨by omega, by rw [hf]; exact h0, by rw [hf]; exact h1, hs⟩ (by show _ - _ < _ - _; omega))
    | (have hm : y.au = a ∧ y.n = 0 := ⟨of_decide_eq_true h25, of_decide_eq_true h33⟩
       have hok : ok = false := by simpa using h36
       have hf : firsts (L.take (k + 1)) a = [y.pu] := by rw [take_snoc hy, firsts_snoc, if_pos hm, h0 hok]; rfl
       exact X.again (k + 1, true, y.pu) ⟨rfl, rfl, rfl, rfl, rfl, trivial⟩ ⟨by omega, (fun h => nomatch h), fun _ => by rw [hf]; exact Least.one ltP_swo y.pu, hs⟩ (by show _ - _ < _ - _; omega))
    | (have hm : y.au = a ∧ y.n = 0 := ⟨of_decide_eq_true h25, of_decide_eq_true h33⟩
       have hok : ok = true := by simpa using h36
       have hls := Least.snoc ltP_swo (y := y.pu) (h1 hok)
       rw [h45, if_pos rfl] at hls
       exact X.again (k + 1, true, y.pu) ⟨rfl, rfl, rfl, rfl, rfl, trivial⟩ ⟨by omega, (fun h => nomatch h), fun _ => by rw [take_snoc hy, firsts_snoc, if_pos hm]; exact hls, hs⟩ (by show _ - _ < _ - _; omega))
    | (have hm : y.au = a ∧ y.n = 0 := ⟨of_decide_eq_true h25, of_decide_eq_true h33⟩
       have hok : ok = true := by simpa using h36
       have hls := Least.snoc ltP_swo (y := y.pu) (h1 hok)
       rw [h45, if_neg (by decide)] at hls
       exact X.again (k + 1, ok, q) ⟨rfl, rfl, rfl, rfl, rfl, trivial⟩ ⟨by omega, fun h => absurd (hok.symm.trans h) (by decide), fun _ => by rw [take_snoc hy, firsts_snoc, if_pos hm]; exact hls, hs⟩ (by show _ - _ < _ - _; omega))
  refine D.skipP 8 rfl (by kernel_rfl) rfl rfl rfl (fun _ => hs.to) ?_
  refine D.skipP 9 rfl (by kernel_rfl) rfl rfl rfl (fun _ => hs.to) ?_
  refine D.skipP 10 rfl (by kernel_rfl) rfl rfl rfl (fun _ => hs.to) ?_
  refine D.skipP 11 rfl (by kernel_rfl) rfl rfl rfl (fun _ => hs.to) ?_
  refine D.skip 12 rfl (by kernel_rfl) rfl rfl rfl hs.to ?_
  refine D.skipP 13 rfl (by kernel_rfl) rfl rfl rfl (fun _ => hs.to) ?_
  refine D.evP 14 rfl (by kernel_rfl) rfl (fun _ => hs.to) (fun _ => E.pickF rfl rfl) ?_
  refine D.evP 15 rfl (by kernel_rfl) rfl (fun _ => hs.to) (fun _ => E.move rfl) ?_
  refine D.skipP 16 rfl (by kernel_rfl) rfl rfl rfl (fun _ => hs.to) ?_
  refine D.skipP 17 rfl (by kernel_rfl) rfl rfl rfl (fun _ => hs.to) ?_
  refine D.skipP 18 rfl (by kernel_rfl) rfl rfl rfl (fun _ => hs.to) ?_
  refine D.undefP 19 rfl (by kernel_rfl) rfl rfl (fun _ => hs.to) ?_
  refine D.undefP 20 rfl (by kernel_rfl) rfl rfl (fun _ => hs.to) ?_
  refine D.undefP 21 rfl (by kernel_rfl) rfl rfl (fun _ => hs.to) ?_
  refine D.undefP 22 rfl (by kernel_rfl) rfl rfl (fun _ => hs.to) ?_
  refine D.undef 23 rfl (by kernel_rfl) rfl rfl hs.to ?_
  refine D.undef 24 rfl (by kernel_rfl) rfl rfl hs.to ?_
  refine D.act 25 rfl (by kernel_rfl) ?_
  refine R.gundef rfl rfl ?_
  refine D.backT (by kernel_rfl) ?_
  refine D.skipP 26 rfl (by kernel_rfl) rfl rfl rfl (np (by kernel_rfl)) ?_
  refine D.evP 27 rfl (by kernel_rfl) rfl (np (by kernel_rfl)) (fun _ => E.pickF rfl rfl) ?_
  refine D.done rfl (by kernel_rfl) ?_
  refine X.keep [(0, _), (3, _), (5, _), (6, _), (7, _), (45, _)] ⟨rfl, rfl, rfl, rfl, rfl, rfl, trivial⟩ ?_
  refine X.next ?_
  refine C.cfalse rfl ?_
  refine C.skip ?_
  refine X.blockNormal ?_
  refine X.next ?_
  refine C.region ?_
  refine R.ev rfl (E.move rfl) ?_
  refine R.ev rfl (E.add rfl rfl (by omega) (by omega)) ?_
  refine R.ev rfl (E.assign rfl) ?_
  refine R.done ?_
  refine X.keep [(0, _), (3, _), (5, _), (6, _), (7, _)] ⟨rfl, rfl, rfl, rfl, rfl, trivial⟩ ?_
  first
    | (have hm : ¬ (y.au = a ∧ y.n = 0) := by
         first
           | exact fun g => of_decide_eq_false h25 g.1
           | exact fun g => of_decide_eq_false h33 g.2
       have hf : firsts (L.take (k + 1)) a = firsts (L.take k) a := by rw [take_snoc hy, firsts_snoc, if_neg hm, List.append_nil]
       exact X.again (k + 1, ok, q) ⟨rfl, rfl, rfl, rfl, rfl, trivial⟩ ⟨by omega, by rw [hf]; exact h0, by rw [hf]; exact h1, hs⟩ (by show _ - _ < _ - _; omega))
    | (have hm : y.au = a ∧ y.n = 0 := ⟨of_decide_eq_true h25, of_decide_eq_true h33⟩
       have hok : ok = false := by simpa using h36
       have hf : firsts (L.take (k + 1)) a = [y.pu] := by rw [take_snoc hy, firsts_snoc, if_pos hm, h0 hok]; rfl
       exact X.again (k + 1, true, y.pu) ⟨rfl, rfl, rfl, rfl, rfl, trivial⟩ ⟨by omega, (fun h => nomatch h), fun _ => by rw [hf]; exact Least.one ltP_swo y.pu, hs⟩ (by show _ - _ < _ - _; omega))
    | (have hm : y.au = a ∧ y.n = 0 := ⟨of_decide_eq_true h25, of_decide_eq_true h33⟩
       have hok : ok = true := by simpa using h36
       have hls := Least.snoc ltP_swo (y := y.pu) (h1 hok)
       rw [h45, if_pos rfl] at hls
       exact X.again (k + 1, true, y.pu) ⟨rfl, rfl, rfl, rfl, rfl, trivial⟩ ⟨by omega, (fun h => nomatch h), fun _ => by rw [take_snoc hy, firsts_snoc, if_pos hm]; exact hls, hs⟩ (by show _ - _ < _ - _; omega))
    | (have hm : y.au = a ∧ y.n = 0 := ⟨of_decide_eq_true h25, of_decide_eq_true h33⟩
       have hok : ok = true := by simpa using h36
       have hls := Least.snoc ltP_swo (y := y.pu) (h1 hok)
       rw [h45, if_neg (by decide)] at hls
       exact X.again (k + 1, ok, q) ⟨rfl, rfl, rfl, rfl, rfl, trivial⟩ ⟨by omega, fun h => absurd (hok.symm.trans h) (by decide), fun _ => by rw [take_snoc hy, firsts_snoc, if_pos hm]; exact hls, hs⟩ (by show _ - _ < _ - _; omega))
  refine C.exit ?_
  refine X.thenExit ?_
  refine X.loopExit ?_
  refine X.blockExit ?_
  refine X.next ?_
  refine C.seq ?_
  refine C.region ?_
  have hkl : L.take k = L := List.take_of_length_le (by omega)
  rw [hkl] at h0 h1
  refine R.ev rfl (E.assign rfl) ?_
  refine R.done ?_
  refine X.keep [(0, _), (3, _), (5, _), (6, _), (8, _)] ⟨rfl, rfl, rfl, rfl, rfl, trivial⟩ ?_
  refine X.next ?_
  refine C.seq ?_
  refine C.seq ?_
  refine C.region ?_
  refine R.ev rfl (E.assign rfl) ?_
  refine R.done ?_
  refine X.keep [(0, _), (3, _), (5, _), (6, _), (8, _), (9, _)] ⟨rfl, rfl, rfl, rfl, rfl, rfl, trivial⟩ ?_
  refine X.next ?_
  refine C.block ?_
  refine C.loop (T := Bool × PK × Nat × List KY × Value × Hl) [(0, _), (3, _), (5, _)] (fun (ok, _, m, _, v, _) => [(6, .bool ok), (8, v), (9, .int .i64 (m : Nat))]) (fun (ok, q, m, cp, v, F1) w' => cp.length = m ∧ RowL 49 encK 51 v cp F1 ∧ (ok = true → (∀ c, ChR L a (m : Nat) q c → ChA L a (cp ++ c)) ∧ m + cntN L (m : Nat) ≤ L.length) ∧ (ok = false → ChA L a cp) ∧ Sat K w' (row b5 32 (encP q) :: F1 :: row b3 29 (a.1.map ub) :: Hs)) (fun (ok, _, m, _) => cond ok (cntN L (m : Nat) + 1) 0) ((ok, q, 0, [], .slice none 0 0, [])) ⟨rfl, rfl, rfl, rfl, rfl, rfl, trivial⟩ ⟨rfl, RowL.nil _ _ _, fun h => ⟨fun c hc => .inr ⟨q, h1 h, hc⟩, by have := cntN_le L ((0 : Nat) : Int); omega⟩, fun h => .inl ⟨h0 h, rfl⟩, hs.nil.to⟩ ?_
  rintro ⟨ok, q, m, cp, v8, F8⟩ w8 ⟨hml, r8, hok, hno, hs⟩
  have l3 := encP_len q
  refine C.keep [(0, _), (3, _), (5, _), (6, _), (8, _), (9, _)] ⟨rfl, rfl, rfl, rfl, rfl, rfl, trivial⟩ ?_
  refine C.seq ?_
  refine C.seq ?_
  refine C.region ?_
  refine R.ev rfl (E.move rfl) ?_
  refine R.done ?_
  refine X.keep [(0, _), (3, _), (5, _), (8, _), (9, _), (51, _)] ⟨rfl, rfl, rfl, rfl, rfl, rfl, trivial⟩ ?_
  refine X.next ?_
  refine C.cbool rfl (fun h51 => ?_) (fun h51 => ?_)
  refine C.skip ?_
  refine X.next ?_
  refine C.seq ?_
  refine C.block ?_
  refine C.seq ?_
  refine C.region ?_
  obtain ⟨hch, hcn⟩ := hok h51
  refine R.ev rfl (E.move rfl) ?_
  refine R.ev rfl (E.loadRowC rfl Tryd.underlying32 rfl Tryd.sz32 (by exact ⟨hs.ldA, by assumption⟩)) ?_
  refine R.ev rfl (E.buildG (r := encK ⟨(m : Int), q, -1, kvz⟩) rfl Tryd.underlying49 Tryd.zr49 Tryd.ql49 (by kernel_rfl) (by kernel_rfl) ⟨⟨_, rfl, by rfl⟩, ⟨_, rfl, by simp [Value.cells, *]⟩, ⟨_, rfl, by rfl⟩, trivial⟩ (by rfl)) ?_
  refine R.sallocA hs Tryd.zr49 rfl ?_
  intro b10 w10 hs
  refine R.cstoreAll hs rfl rfl Tryd.sz49 (by rfl) (by exact Enc.len _) (by exact Enc.one _) ?_
  intro w12_4 hs
  try simp only [List.set_cons_zero, List.set_cons_succ] at hs
  refine R.done ?_
  refine X.keep [(0, _), (3, _), (5, _), (8, _), (9, _), (10, _)] ⟨rfl, rfl, rfl, rfl, rfl, rfl, trivial⟩ ?_
  refine X.next ?_
  refine C.seq ?_
  refine C.region ?_
  refine R.ev rfl (E.move rfl) ?_
  refine R.ev rfl (E.loadRowC rfl Tryd.underlying29 rfl Tryd.sz29 (by exact ⟨hs.ldA, by assumption⟩)) ?_
  refine R.ev rfl (E.move rfl) ?_
  refine R.ev rfl (E.loadRowC rfl Tryd.underlying32 rfl Tryd.sz32 (by exact ⟨hs.ldA, by assumption⟩)) ?_
  refine R.call ⟨_, _, Tryd.func40, rfl, by kernel_rfl⟩ rfl rfl (rend_any a (m : Int) q hs hL) ?_
  rintro _ w13 ⟨z, rfl, hz, hs⟩
  refine R.ev rfl (E.assign rfl) ?_
  refine R.done ?_
  refine X.keep [(0, _), (3, _), (5, _), (8, _), (9, _), (10, _), (11, _)] ⟨rfl, rfl, rfl, rfl, rfl, rfl, rfl, trivial⟩ ?_
  refine X.next ?_
  refine C.seq ?_
  refine C.seq ?_
  refine C.region ?_
  refine R.ev rfl (E.move rfl) ?_
  refine R.ev rfl (E.geq rfl rfl) ?_
  refine R.done ?_
  refine X.keep [(0, _), (3, _), (5, _), (8, _), (9, _), (10, _), (11, _), (63, _)] ⟨rfl, rfl, rfl, rfl, rfl, rfl, rfl, rfl, trivial⟩ ?_
  refine X.next ?_
  refine C.cdec rfl (fun h63 => ?_) (fun h63 => ?_)
  obtain ⟨i, e, rfl, hi, he⟩ : ∃ (i : Nat) (e : RO), z = i ∧ L[i]? = some e ∧ Least ltO (ends L a m q) e := by
    rcases hz with ⟨rfl, _⟩ | h
    · exact absurd h63 (by decide)
    · exact h
  have hil := (List.getElem?_eq_some_iff.1 hi).1
  obtain ⟨y, bk_y, of_y, hy, my, ly, rfl, Ay⟩ := (hs.to (Hs := [])).el (i := i) (ad := ad) (n := L.length) (c := cap) hil
  obtain rfl : e = y := Option.some.inj (hi.symm.trans hy)
  refine C.drawn (fun w1 => Sat K w1 []) ([4, 9, 14], [0, 1, 2, 3, 5, 6, 7, 8, 10, 11, 12, 13, 15, 17]) (by kernel_rfl) ?_
  have hs := hs.drew
  refine D.evP 0 rfl (by kernel_rfl) rfl (fun _ => hs.to) (fun _ => E.move rfl) ?_
  refine D.evP 1 rfl (by kernel_rfl) rfl (fun _ => hs.to) (fun _ => E.move rfl) ?_
  refine D.evP 2 rfl (by kernel_rfl) rfl (fun _ => hs.to) (fun _ => E.indexAddr (i := i) rfl rfl Tryd.underlying26 Tryd.sz45 rfl hil) ?_
  refine D.evP 3 rfl (by kernel_rfl) rfl (fun _ => hs.to) (fun _ => E.fieldAddrN 66 rfl Tryd.underlying45 rfl Tryd.sz3 rfl) ?_
  refine D.evP 5 rfl (by kernel_rfl) rfl (fun _ => hs.to) (fun _ => E.move rfl) ?_
  refine D.evP 6 rfl (by kernel_rfl) rfl (fun _ => hs.to) (fun _ => E.move rfl) ?_
  refine D.evP 7 rfl (by kernel_rfl) rfl (fun _ => hs.to) (fun _ => E.indexAddr (i := i) rfl rfl Tryd.underlying26 Tryd.sz45 rfl hil) ?_
  refine D.evP 8 rfl (by kernel_rfl) rfl (fun _ => hs.to) (fun _ => E.fieldAddrN 0 rfl Tryd.underlying45 rfl Tryd.sz34 rfl) ?_
  refine D.evP 10 rfl (by kernel_rfl) rfl (fun _ => hs.to) (fun _ => E.move rfl) ?_
  refine D.evP 11 rfl (by kernel_rfl) rfl (fun _ => hs.to) (fun _ => E.move rfl) ?_
  refine D.evP 12 rfl (by kernel_rfl) rfl (fun _ => hs.to) (fun _ => E.indexAddr (i := i) rfl rfl Tryd.underlying26 Tryd.sz45 rfl hil) ?_
  refine D.evP 13 rfl (by kernel_rfl) rfl (fun _ => hs.to) (fun _ => E.fieldAddrN 67 rfl Tryd.underlying45 rfl Tryd.sz32 rfl) ?_
  refine D.ev 4 rfl (by kernel_rfl) rfl hs.to (fun _ hS => E.load1 rfl Tryd.underlying3 rfl (by exact At.cellC ((by assumption : ∀ w', Sat _ w' _ → At w' _ _ _) _ hS))) ?_
  refine D.evP 15 rfl (by kernel_rfl) rfl (fun _ => hs.to) (fun _ => E.fieldAddr0 18 rfl Tryd.underlying49 rfl Tryd.sz3 rfl) ?_
  refine D.ev 9 rfl (by kernel_rfl) rfl hs.to (fun _ hS => E.loadRowC rfl Tryd.underlying34 rfl Tryd.sz34 (by exact At.partC ((by assumption : ∀ w', Sat _ w' _ → At w' _ _ _) _ hS))) ?_
  refine D.ev 14 rfl (by kernel_rfl) rfl hs.to (fun _ hS => E.loadRowC rfl Tryd.underlying32 rfl Tryd.sz32 (by exact At.partC ((by assumption : ∀ w', Sat _ w' _ → At w' _ _ _) _ hS))) ?_
  refine D.act 16 rfl (by kernel_rfl) ?_
  refine R.cstore1 (b := b10) hs rfl rfl Tryd.sz3 (by rw [encK_len]; decide) rfl ?_
  intro w1516 hs
  rw [encK_lim] at hs
  dsimp only at hs
  refine D.back hs.to ?_
  refine D.evP 17 rfl (by kernel_rfl) rfl (fun _ => hs.to) (fun _ => E.fieldAddr0 19 rfl Tryd.underlying49 rfl Tryd.sz34 rfl) ?_
  refine D.act 18 rfl (by kernel_rfl) ?_
  refine R.cstore (b := b10) hs rfl rfl Tryd.sz34 (encV_len _) (by rw [encK_len]; decide) (ub_all _) ?_
  intro w1518 hs
  rw [encK_nx] at hs
  dsimp only at hs
  refine D.back hs.to ?_
  refine D.act 19 rfl (by kernel_rfl) ?_
  refine R.cstoreAll (b := b5) hs rfl rfl Tryd.sz32 (encP_len _) (encP_len _) (encP_one _) ?_
  intro w1519 hs
  refine D.backT (by kernel_rfl) ?_
  refine D.done rfl (by kernel_rfl) ?_
  refine X.keep [(0, _), (3, _), (5, _), (8, _), (9, _), (10, _), (11, _)] ⟨rfl, rfl, rfl, rfl, rfl, rfl, rfl, trivial⟩ ?_
  refine X.next ?_
  refine C.seq ?_
  refine C.region ?_
  refine R.ev rfl (E.move rfl) ?_
  refine R.ev rfl (E.geq rfl rfl) ?_
  refine R.ev rfl (E.assign rfl) ?_
  refine R.done ?_
  refine X.keep [(0, _), (3, _), (5, _), (6, _), (8, _), (9, _), (10, _)] ⟨rfl, rfl, rfl, rfl, rfl, rfl, rfl, trivial⟩ ?_
  refine X.next ?_
  refine C.region ?_
  refine R.ev rfl (E.move rfl) ?_
  refine R.ev rfl (E.loadRowC rfl Tryd.underlying49 rfl Tryd.sz49 (by exact ⟨hs.ldA, by exact Enc.len _⟩)) ?_
  refine R.buildSliceA rfl Tryd.underlying42 Tryd.sz49 Tryd.zr49 rfl (by exact Enc.len _) (by decide) (by decide) ?_
  intro b85 w85 n85
  have hs := hs.new n85
  refine R.capp1 (_) hs rfl rfl Tryd.underlying42 Tryd.by49 (by rfl) rfl (by exact hs.ldA) (by decide) (by omega) (by omega) ?_
  intro v86 w86 F86 r86 hs
  refine R.ev rfl (E.assign rfl) ?_
  refine R.done ?_
  refine X.keep [(0, _), (3, _), (5, _), (6, _), (8, _), (9, _)] ⟨rfl, rfl, rfl, rfl, rfl, rfl, trivial⟩ ?_
  refine X.blockNormal ?_
  refine X.next ?_
  refine C.region ?_
  refine R.ev rfl (E.move rfl) ?_
  refine R.ev rfl ((E.add rfl rfl (by omega) (by omega)).isI (c := ((m + 1 : Nat) : Int)) (by omega)) ?_
  refine R.ev rfl (E.assign rfl) ?_
  refine R.done ?_
  refine X.keep [(0, _), (3, _), (5, _), (6, _), (8, _), (9, _)] ⟨rfl, rfl, rfl, rfl, rfl, rfl, trivial⟩ ?_
  first
    | (have hmm := mem_ends.1 he.mem
       have hc2 := cntN_lt hmm.1 hmm.2.2.1
       refine X.again (_, e.nw, m + 1, _, v86, F86) ⟨rfl, rfl, rfl, rfl, rfl, rfl, trivial⟩ ⟨by rw [List.length_append, hml]; rfl, r86, fun _ => ⟨fun c hc => ?_, ?_⟩, fun h => absurd ((decide_eq_true h63).symm.trans h) (by decide), hs.to⟩ ?_
       · rw [List.append_assoc]
         exact hch _ (ChR.cons he hc)
       · push_cast; omega
       · show cond _ _ _ < cond ok _ _
         rw [decide_eq_true h63, h51]; simp only [cond_true]; push_cast; omega)
    | (refine X.again (_, q, m + 1, _, v86, F86) ⟨rfl, rfl, rfl, rfl, rfl, rfl, trivial⟩ ⟨by rw [List.length_append, hml]; rfl, r86, fun h => absurd ((decide_eq_false h63).symm.trans h) (by decide), fun _ => hch _ (ChR.last hz0), hs.to⟩ ?_
       show cond _ _ _ < cond ok _ _
       rw [decide_eq_false h63, h51]; simp only [cond_true, cond_false]; omega)
  have hz0 : ends L a m q = [] := by
    rcases hz with ⟨_, h⟩ | ⟨i, e, rfl, _⟩
    · exact h
    · exact absurd (Int.natCast_nonneg i) h63
  refine C.skip ?_
  refine X.next ?_
  refine C.seq ?_
  refine C.region ?_
  refine R.ev rfl (E.move rfl) ?_
  refine R.ev rfl (E.geq rfl rfl) ?_
  refine R.ev rfl (E.assign rfl) ?_
  refine R.done ?_
  refine X.keep [(0, _), (3, _), (5, _), (6, _), (8, _), (9, _), (10, _)] ⟨rfl, rfl, rfl, rfl, rfl, rfl, rfl, trivial⟩ ?_
  refine X.next ?_
  refine C.region ?_
  refine R.ev rfl (E.move rfl) ?_
  refine R.ev rfl (E.loadRowC rfl Tryd.underlying49 rfl Tryd.sz49 (by exact ⟨hs.ldA, by exact Enc.len _⟩)) ?_
  refine R.buildSliceA rfl Tryd.underlying42 Tryd.sz49 Tryd.zr49 rfl (by exact Enc.len _) (by decide) (by decide) ?_
  intro b85 w85 n85
  have hs := hs.new n85
  refine R.capp1 (_) hs rfl rfl Tryd.underlying42 Tryd.by49 (by rfl) rfl (by exact hs.ldA) (by decide) (by omega) (by omega) ?_
  intro v86 w86 F86 r86 hs
  refine R.ev rfl (E.assign rfl) ?_
  refine R.done ?_
  refine X.keep [(0, _), (3, _), (5, _), (6, _), (8, _), (9, _)] ⟨rfl, rfl, rfl, rfl, rfl, rfl, trivial⟩ ?_
  refine X.blockNormal ?_
  refine X.next ?_
  refine C.region ?_
  refine R.ev rfl (E.move rfl) ?_
  refine R.ev rfl ((E.add rfl rfl (by omega) (by omega)).isI (c := ((m + 1 : Nat) : Int)) (by omega)) ?_
  refine R.ev rfl (E.assign rfl) ?_
  refine R.done ?_
  refine X.keep [(0, _), (3, _), (5, _), (6, _), (8, _), (9, _)] ⟨rfl, rfl, rfl, rfl, rfl, rfl, trivial⟩ ?_
  first
    | (have hmm := mem_ends.1 he.mem
       have hc2 := cntN_lt hmm.1 hmm.2.2.1
       refine X.again (_, e.nw, m + 1, _, v86, F86) ⟨rfl, rfl, rfl, rfl, rfl, rfl, trivial⟩ ⟨by rw [List.length_append, hml]; rfl, r86, fun _ => ⟨fun c hc => ?_, ?_⟩, fun h => absurd ((decide_eq_true h63).symm.trans h) (by decide), hs.to⟩ ?_
       · rw [List.append_assoc]
         exact hch _ (ChR.cons he hc)
       · push_cast; omega
       · show cond _ _ _ < cond ok _ _
         rw [decide_eq_true h63, h51]; simp only [cond_true]; push_cast; omega)
    | (refine X.again (_, q, m + 1, _, v86, F86) ⟨rfl, rfl, rfl, rfl, rfl, rfl, trivial⟩ ⟨by rw [List.length_append, hml]; rfl, r86, fun h => absurd ((decide_eq_false h63).symm.trans h) (by decide), fun _ => hch _ (ChR.last hz0), hs.to⟩ ?_
       show cond _ _ _ < cond ok _ _
       rw [decide_eq_false h63, h51]; simp only [cond_true, cond_false]; omega)
  refine C.exit ?_
  refine X.thenExit ?_
  refine X.loopExit ?_
  refine X.blockExit ?_
  refine X.next ?_
  refine C.seq ?_
  refine C.region ?_
  refine R.ev rfl (E.move rfl) ?_
  refine R.ev rfl (E.assign rfl) ?_
  refine R.done ?_
  refine X.keep [(4, _)] ⟨rfl, trivial⟩ ?_
  refine X.next ?_
  refine C.ret ?_
  refine X.ret1 rfl rfl ?_
  exact ⟨cp, F8, r8, hno h51, hs.to⟩
end Go.Proofs.YtbkgibgomohdjaaDoor
namespace Go.Proofs.YtbkgibgomohdjaaDoor
open Go.Eng Go.RowKit Go.Sort
variable {K : Kn} {Hs Rs : List Hl} {F : Hl} {w : World} {v : Value} {L : List RO}
theorem chA_lim {a : Vec 16} {c : List KY} (hL : LOk L) (h : ChA L a c) : ∀ k ∈ c, k.lim = -1 ∨ 0 ≤ k.lim := by
  rcases h with ⟨_, rfl⟩ | ⟨q, _, hc⟩
  · simp
  · intro k hk
    rcases hc.lim k hk with ⟨h1, _⟩ | ⟨e, he, _, _, _, hl, _⟩
    · exact .inl h1
    · exact .inr (by rw [← hl]; exact (hL.good e he).leaf)
theorem judge_in {c : List KY} {a : Vec 16} {n : Int} {q : PK} {leaf : Int} {id : Vec 32} {m : Nat} {y : KY} (hn : n = m) (hy : c[m]? = some y) : judge c a n q leaf id = if y.pu ≠ q then 2 else if y.lim ≠ -1 ∧ (y.lim < leaf ∨ (leaf = y.lim ∧ id ≠ y.nx)) then 3 else 0 := by
  subst hn
  have := (List.getElem?_eq_some_iff.1 hy).1
  unfold judge
  rw [if_pos (by omega), Int.toNat_natCast, hy]
theorem judge_out {c : List KY} {a : Vec 16} {n : Int} {q : PK} {leaf : Int} {id : Vec 32} (h : ¬ (0 ≤ n ∧ n < c.length)) : judge c a n q leaf id = if n ≠ 0 then 1 else if fine q = true ∧ ofP q = a then 0 else 2 := by
  unfold judge; rw [if_neg h]
theorem rjudge_any (hok : LOk L) (a : Vec 16) (n : Int) (q : PK) (leaf : Int) (id : Vec 32) (hs : Sat K w Hs) [hr : KRow encO 84 K v L] (hL : L.length ≤ 100000) : Ret Tryd.prog 17 #[v, idV a.1, .int .i64 n, .agg (encP q).toArray, .int .i64 leaf, idV id.1] w fun r w' => ∃ c, r = .int .i64 (judge c a n q leaf id) ∧ ChA L a c ∧ Sat K w' Hs := by
  have o1 : OneC v := ⟨KRow.oneC' hr⟩
  have e1 := encV_len a
  have e2 := encV_len id
  refine Ret.enter (n := 75) (args := [v, idV a.1, .int .i64 n, .agg (encP q).toArray, .int .i64 leaf, idV id.1]) Tryd.func17 rfl rfl ?_
  refine C.keep [(0, _), (1, _), (2, _), (3, _), (4, _), (5, _)] ⟨rfl, rfl, rfl, rfl, rfl, rfl, trivial⟩ ?_
  refine C.seq ?_
  refine C.region ?_
  refine R.sboxA hs rfl rfl ?_
  intro b7 w7 hs
  refine R.sboxA hs rfl rfl ?_
  intro b9 w9 hs
  refine R.sboxA hs rfl rfl ?_
  intro b11 w11 hs
  refine R.ev rfl (E.assign rfl) ?_
  refine R.done ?_
  refine X.keep [(0, _), (2, _), (4, _), (7, _), (9, _), (11, _)] ⟨rfl, rfl, rfl, rfl, rfl, rfl, trivial⟩ ?_
  refine X.next ?_
  refine C.seq ?_
  refine C.region ?_
  refine R.ev rfl (E.move rfl) ?_
  refine R.ev rfl (E.loadRowC rfl Tryd.underlying29 rfl Tryd.sz29 (by exact ⟨hs.ldA, by assumption⟩)) ?_
  refine R.call ⟨_, _, Tryd.func18, rfl, by kernel_rfl⟩ rfl rfl (rchain_any a hs hL) ?_
  rintro v13 w13 ⟨c, F13, r13, hc, hs⟩
  obtain ⟨ad13, cap13, rfl, _⟩ := r13.val
  refine R.ev rfl (E.assign rfl) ?_
  refine R.done ?_
  refine X.keep [(2, _), (4, _), (7, _), (9, _), (11, _), (13, _)] ⟨rfl, rfl, rfl, rfl, rfl, rfl, trivial⟩ ?_
  refine X.next ?_
  refine C.seq ?_
  refine C.seq ?_
  refine C.region ?_
  refine R.ev rfl (E.move rfl) ?_
  refine R.ev rfl (E.geq rfl rfl) ?_
  refine R.ev rfl (E.move rfl) ?_
  refine R.split 19 rfl (fun h19 => ?_) (fun h19 => ?_)
  refine R.gyes rfl rfl ?_
  refine R.ev rfl (E.move rfl) ?_
  refine R.gyes rfl rfl ?_
  refine R.ev rfl (E.move rfl) ?_
  refine R.gyes rfl rfl ?_
  refine R.ev rfl (E.lenSl rfl Tryd.underlying42) ?_
  refine R.gyes rfl rfl ?_
  refine R.ev rfl (E.lss rfl rfl) ?_
  refine R.ev rfl (E.pickT rfl rfl) ?_
  refine R.done ?_
  refine X.keep [(2, _), (4, _), (7, _), (9, _), (11, _), (13, _), (24, _)] ⟨rfl, rfl, rfl, rfl, rfl, rfl, rfl, trivial⟩ ?_
  refine X.next ?_
  refine C.cdec rfl (fun h24 => ?_) (fun h24 => ?_)
  refine C.seq ?_
  refine C.seq ?_
  refine C.drawn (SatS hs) ([4, 5], [0, 1, 2, 3, 6]) (by kernel_rfl) ?_
  have hs := hs.drew
  have h19 := of_decide_eq_true h19
  obtain ⟨m, hm⟩ : ∃ m : Nat, n = m := ⟨n.toNat, by omega⟩
  obtain ⟨y, bk_y, of_y, hy, my, ly, rfl, Ay⟩ := hs.el (i := m) (ad := ad13) (n := c.length) (c := cap13) (by omega)
  have hmc := (List.getElem?_eq_some_iff.1 hy).1
  have hJ := judge_in (c := c) (a := a) (q := q) (leaf := leaf) (id := id) hm hy
  have hyl := chA_lim hok hc y my
  refine D.evP 0 rfl (by kernel_rfl) rfl (fun _ => hs.to) (fun _ => E.move rfl) ?_
  refine D.evP 1 rfl (by kernel_rfl) rfl (fun _ => hs.to) (fun _ => E.move rfl) ?_
  refine D.evP 2 rfl (by kernel_rfl) rfl (fun _ => hs.to) (fun _ => E.indexAddr (i := m) rfl rfl Tryd.underlying42 Tryd.sz49 hm hmc) ?_
  refine D.evP 3 rfl (by kernel_rfl) rfl (fun _ => hs.to) (fun _ => E.fieldAddrN 1 rfl Tryd.underlying49 rfl Tryd.sz32 rfl) ?_
  refine D.ev 4 rfl (by kernel_rfl) rfl hs.to (fun _ hS => E.loadRowC rfl Tryd.underlying32 rfl Tryd.sz32 (by exact At.partC ((by assumption : ∀ w', Sat _ w' _ → At w' _ _ _) _ hS))) ?_
  refine D.ev 5 rfl (by kernel_rfl) rfl hs.to (fun _ hS => E.loadRowC rfl Tryd.underlying32 rfl Tryd.sz32 (by exact ⟨hS.ldA, by exact Enc.len _⟩)) ?_
  refine D.evP 6 rfl (by kernel_rfl) rfl (fun _ => hs.to) (fun _ => (E.neqAgg 10 rfl rfl Tryd.lv32 rfl Tryd.underlying32 rfl Tryd.gd32 (encP_fits y.pu) (encP_fits q)).isB (c := decide (y.pu ≠ q)) (by rw [encP_eq]; simp)) ?_
  refine D.done rfl (by kernel_rfl) ?_
  refine X.keep [(2, _), (4, _), (11, _), (13, _), (31, _)] ⟨rfl, rfl, rfl, rfl, rfl, trivial⟩ ?_
  refine X.next ?_
  refine C.cbool rfl (fun h31 => ?_) (fun h31 => ?_)
  refine C.seq ?_
  refine C.region ?_
  refine R.ev rfl (E.assign rfl) ?_
  refine R.done ?_
  refine X.keep [(12, _)] ⟨rfl, trivial⟩ ?_
  refine X.next ?_
  refine C.ret ?_
  refine X.thenRet ?_
  refine X.thenRet ?_
  refine X.ret1 rfl rfl ?_
  exact ⟨c, by rw [hJ, if_pos (of_decide_eq_true h31)], hc, hs.to⟩
  refine C.skip ?_
  refine X.next ?_
  refine C.seq ?_
  refine C.seq ?_
  refine C.drawn (SatS hs) ([4, 12, 20, 23, 28], [0, 1, 2, 3, 5, 6, 7, 8, 9, 10, 11, 13, 14, 15, 16, 17, 18, 19, 21, 22, 24, 25, 26, 27, 29, 30, 31, 32]) (by kernel_rfl) ?_
  have hs := hs.drew
  refine D.evP 0 rfl (by kernel_rfl) rfl (fun _ => hs.to) (fun _ => E.move rfl) ?_
  refine D.evP 1 rfl (by kernel_rfl) rfl (fun _ => hs.to) (fun _ => E.move rfl) ?_
  refine D.evP 2 rfl (by kernel_rfl) rfl (fun _ => hs.to) (fun _ => E.indexAddr (i := m) rfl rfl Tryd.underlying42 Tryd.sz49 hm hmc) ?_
  refine D.evP 3 rfl (by kernel_rfl) rfl (fun _ => hs.to) (fun _ => E.fieldAddrN 18 rfl Tryd.underlying49 rfl Tryd.sz3 rfl) ?_
  refine D.ev 4 rfl (by kernel_rfl) rfl hs.to (fun _ hS => E.load1 rfl Tryd.underlying3 rfl (by exact At.cellC ((by assumption : ∀ w', Sat _ w' _ → At w' _ _ _) _ hS))) ?_
  refine D.evP 5 rfl (by kernel_rfl) rfl (fun _ => hs.to) (fun _ => E.geq rfl rfl) ?_
  refine D.evP 6 rfl (by kernel_rfl) rfl (fun _ => hs.to) (fun _ => E.move rfl) ?_
  refine D.split 38 rfl (fun h38 => ?_) (fun h38 => ?_)
  refine D.evPG 7 rfl (by kernel_rfl) rfl rfl rfl (fun _ => hs.to) (fun _ => E.move rfl) ?_
  refine D.evPG 8 rfl (by kernel_rfl) rfl rfl rfl (fun _ => hs.to) (fun _ => E.move rfl) ?_
  refine D.evPG 9 rfl (by kernel_rfl) rfl rfl rfl (fun _ => hs.to) (fun _ => E.move rfl) ?_
  refine D.evPG 10 rfl (by kernel_rfl) rfl rfl rfl (fun _ => hs.to) (fun _ => E.indexAddr (i := m) rfl rfl Tryd.underlying42 Tryd.sz49 hm hmc) ?_
  refine D.evPG 11 rfl (by kernel_rfl) rfl rfl rfl (fun _ => hs.to) (fun _ => E.fieldAddrN 18 rfl Tryd.underlying49 rfl Tryd.sz3 rfl) ?_
  refine D.evG 12 rfl (by kernel_rfl) rfl rfl rfl hs.to (fun _ hS => E.load1 rfl Tryd.underlying3 rfl (by exact At.cellC ((by assumption : ∀ w', Sat _ w' _ → At w' _ _ _) _ hS))) ?_
  refine D.evPG 13 rfl (by kernel_rfl) rfl rfl rfl (fun _ => hs.to) (fun _ => E.gtr rfl rfl) ?_
  refine D.evPG 14 rfl (by kernel_rfl) rfl rfl rfl (fun _ => hs.to) (fun _ => E.move rfl) ?_
  refine D.split 46 rfl (fun h46 => ?_) (fun h46 => ?_)
  refine D.skipP 15 rfl (by kernel_rfl) rfl rfl rfl (fun _ => hs.to) ?_
  refine D.skipP 16 rfl (by kernel_rfl) rfl rfl rfl (fun _ => hs.to) ?_
  refine D.skipP 17 rfl (by kernel_rfl) rfl rfl rfl (fun _ => hs.to) ?_
  refine D.skipP 18 rfl (by kernel_rfl) rfl rfl rfl (fun _ => hs.to) ?_
  refine D.skipP 19 rfl (by kernel_rfl) rfl rfl rfl (fun _ => hs.to) ?_
  refine D.skip 20 rfl (by kernel_rfl) rfl rfl rfl hs.to ?_
  refine D.skipP 21 rfl (by kernel_rfl) rfl rfl rfl (fun _ => hs.to) ?_
  refine D.skipP 22 rfl (by kernel_rfl) rfl rfl rfl (fun _ => hs.to) ?_
  refine D.undefP 24 rfl (by kernel_rfl) rfl rfl (fun _ => hs.to) ?_
  refine D.undefP 25 rfl (by kernel_rfl) rfl rfl (fun _ => hs.to) ?_
  refine D.undefP 26 rfl (by kernel_rfl) rfl rfl (fun _ => hs.to) ?_
  refine D.undefP 27 rfl (by kernel_rfl) rfl rfl (fun _ => hs.to) ?_
  refine D.undef 23 rfl (by kernel_rfl) rfl rfl hs.to ?_
  refine D.undef 28 rfl (by kernel_rfl) rfl rfl hs.to ?_
  refine D.undefP 29 rfl (by kernel_rfl) rfl rfl (fun _ => hs.to) ?_
  refine D.skipP 30 rfl (by kernel_rfl) rfl rfl rfl (fun _ => hs.to) ?_
  refine D.evPG 31 rfl (by kernel_rfl) rfl rfl rfl (fun _ => hs.to) (fun _ => E.pickT rfl rfl) ?_
  refine D.evP 32 rfl (by kernel_rfl) rfl (fun _ => hs.to) (fun _ => E.pickT rfl rfl) ?_
  refine D.done rfl (by kernel_rfl) ?_
  refine X.keep [(64, _)] ⟨rfl, trivial⟩ ?_
  refine X.next ?_
  refine C.ctrue rfl ?_
  refine C.seq ?_
  refine C.region ?_
  refine R.ev rfl (E.assign rfl) ?_
  refine R.done ?_
  refine X.keep [(12, _)] ⟨rfl, trivial⟩ ?_
  refine X.next ?_
  refine C.ret ?_
  refine X.thenRet ?_
  refine X.thenRet ?_
  refine X.ret1 rfl rfl ?_
  have hl : y.lim < leaf ∨ (leaf = y.lim ∧ id ≠ y.nx) := by
    first
      | exact .inl (of_decide_eq_true h46)
      | exact .inr ⟨of_decide_eq_true h54, of_decide_eq_true h64⟩
  have h38 := of_decide_eq_true h38
  exact ⟨c, by rw [hJ, if_neg (of_decide_eq_false h31), if_pos ⟨by omega, hl⟩], hc, hs.to⟩
  refine D.evPG 15 rfl (by kernel_rfl) rfl rfl rfl (fun _ => hs.to) (fun _ => E.move rfl) ?_
  refine D.evPG 16 rfl (by kernel_rfl) rfl rfl rfl (fun _ => hs.to) (fun _ => E.move rfl) ?_
  refine D.evPG 17 rfl (by kernel_rfl) rfl rfl rfl (fun _ => hs.to) (fun _ => E.move rfl) ?_
  refine D.evPG 18 rfl (by kernel_rfl) rfl rfl rfl (fun _ => hs.to) (fun _ => E.indexAddr (i := m) rfl rfl Tryd.underlying42 Tryd.sz49 hm hmc) ?_
  refine D.evPG 19 rfl (by kernel_rfl) rfl rfl rfl (fun _ => hs.to) (fun _ => E.fieldAddrN 18 rfl Tryd.underlying49 rfl Tryd.sz3 rfl) ?_
  refine D.evG 20 rfl (by kernel_rfl) rfl rfl rfl hs.to (fun _ hS => E.load1 rfl Tryd.underlying3 rfl (by exact At.cellC ((by assumption : ∀ w', Sat _ w' _ → At w' _ _ _) _ hS))) ?_
  refine D.evPG 21 rfl (by kernel_rfl) rfl rfl rfl (fun _ => hs.to) (fun _ => E.eql rfl rfl) ?_
  refine D.evPG 22 rfl (by kernel_rfl) rfl rfl rfl (fun _ => hs.to) (fun _ => E.move rfl) ?_
  refine D.split 54 rfl (fun h54 => ?_) (fun h54 => ?_)
  refine D.evPG 24 rfl (by kernel_rfl) rfl rfl rfl (fun _ => hs.to) (fun _ => E.move rfl) ?_
  refine D.evPG 25 rfl (by kernel_rfl) rfl rfl rfl (fun _ => hs.to) (fun _ => E.move rfl) ?_
  refine D.evPG 26 rfl (by kernel_rfl) rfl rfl rfl (fun _ => hs.to) (fun _ => E.indexAddr (i := m) rfl rfl Tryd.underlying42 Tryd.sz49 hm hmc) ?_
  refine D.evPG 27 rfl (by kernel_rfl) rfl rfl rfl (fun _ => hs.to) (fun _ => E.fieldAddrN 19 rfl Tryd.underlying49 rfl Tryd.sz34 rfl) ?_
  refine D.evG 23 rfl (by kernel_rfl) rfl rfl rfl hs.to (fun _ hS => E.loadRowC rfl Tryd.underlying34 rfl Tryd.sz34 (by exact ⟨hS.ldA, by assumption⟩)) ?_
  refine D.evG 28 rfl (by kernel_rfl) rfl rfl rfl hs.to (fun _ hS => E.loadRowC rfl Tryd.underlying34 rfl Tryd.sz34 (by exact At.partC ((by assumption : ∀ w', Sat _ w' _ → At w' _ _ _) _ hS))) ?_
  refine D.evPG 29 rfl (by kernel_rfl) rfl rfl rfl (fun _ => hs.to) (fun _ => E.neV 10 rfl rfl Tryd.lv34 rfl Tryd.underlying34 rfl Tryd.gd34) ?_
  refine D.evPG 30 rfl (by kernel_rfl) rfl rfl rfl (fun _ => hs.to) (fun _ => E.pickT rfl rfl) ?_
  refine D.evPG 31 rfl (by kernel_rfl) rfl rfl rfl (fun _ => hs.to) (fun _ => E.pickF rfl rfl) ?_
  refine D.evP 32 rfl (by kernel_rfl) rfl (fun _ => hs.to) (fun _ => E.pickT rfl rfl) ?_
  refine D.done rfl (by kernel_rfl) ?_
  refine X.keep [(64, _)] ⟨rfl, trivial⟩ ?_
  refine X.next ?_
  refine C.cbool rfl (fun h64 => ?_) (fun h64 => ?_)
  refine C.seq ?_
  refine C.region ?_
  refine R.ev rfl (E.assign rfl) ?_
  refine R.done ?_
  refine X.keep [(12, _)] ⟨rfl, trivial⟩ ?_
  refine X.next ?_
  refine C.ret ?_
  refine X.thenRet ?_
  refine X.thenRet ?_
  refine X.ret1 rfl rfl ?_
  have hl : y.lim < leaf ∨ (leaf = y.lim ∧ id ≠ y.nx) := by
    first
      | exact .inl (of_decide_eq_true h46)
      | exact .inr ⟨of_decide_eq_true h54, of_decide_eq_true h64⟩
  have h38 := of_decide_eq_true h38
  exact ⟨c, by rw [hJ, if_neg (of_decide_eq_false h31), if_pos ⟨by omega, hl⟩], hc, hs.to⟩
  refine C.skip ?_
  refine X.next ?_
  refine C.seq ?_
  refine C.region ?_
  refine R.ev rfl (E.assign rfl) ?_
  refine R.done ?_
  refine X.keep [(12, _)] ⟨rfl, trivial⟩ ?_
  refine X.next ?_
  refine C.ret ?_
  refine X.thenRet ?_
  refine X.ret1 rfl rfl ?_
  have hl : ¬ (y.lim ≠ -1 ∧ (y.lim < leaf ∨ (leaf = y.lim ∧ id ≠ y.nx))) := by
    first
      | (have h38 := of_decide_eq_false h38; exact fun g => g.1 (hyl.resolve_right h38))
      | exact fun g => (g.2.elim (of_decide_eq_false h46) fun k => of_decide_eq_false h64 k.2)
      | exact fun g => (g.2.elim (of_decide_eq_false h46) fun k => of_decide_eq_false h54 k.1)
  exact ⟨c, by rw [hJ, if_neg (of_decide_eq_false h31), if_neg hl], hc, hs.to⟩
  refine D.skipP 24 rfl (by kernel_rfl) rfl rfl rfl (fun _ => hs.to) ?_
  refine D.skipP 25 rfl (by kernel_rfl) rfl rfl rfl (fun _ => hs.to) ?_
  refine D.skipP 26 rfl (by kernel_rfl) rfl rfl rfl (fun _ => hs.to) ?_
  refine D.skipP 27 rfl (by kernel_rfl) rfl rfl rfl (fun _ => hs.to) ?_
  refine D.skip 23 rfl (by kernel_rfl) rfl rfl rfl hs.to ?_
  refine D.skip 28 rfl (by kernel_rfl) rfl rfl rfl hs.to ?_
  refine D.skipP 29 rfl (by kernel_rfl) rfl rfl rfl (fun _ => hs.to) ?_
  refine D.evPG 30 rfl (by kernel_rfl) rfl rfl rfl (fun _ => hs.to) (fun _ => E.pickF rfl rfl) ?_
  refine D.evPG 31 rfl (by kernel_rfl) rfl rfl rfl (fun _ => hs.to) (fun _ => E.pickF rfl rfl) ?_
  refine D.evP 32 rfl (by kernel_rfl) rfl (fun _ => hs.to) (fun _ => E.pickT rfl rfl) ?_
  refine D.done rfl (by kernel_rfl) ?_
  refine X.keep [(64, _)] ⟨rfl, trivial⟩ ?_
  refine X.next ?_
  refine C.cfalse rfl ?_
  refine C.skip ?_
  refine X.next ?_
  refine C.seq ?_
  refine C.region ?_
  refine R.ev rfl (E.assign rfl) ?_
  refine R.done ?_
  refine X.keep [(12, _)] ⟨rfl, trivial⟩ ?_
  refine X.next ?_
  refine C.ret ?_
  refine X.thenRet ?_
  refine X.ret1 rfl rfl ?_
  have hl : ¬ (y.lim ≠ -1 ∧ (y.lim < leaf ∨ (leaf = y.lim ∧ id ≠ y.nx))) := by
    first
      | (have h38 := of_decide_eq_false h38; exact fun g => g.1 (hyl.resolve_right h38))
      | exact fun g => (g.2.elim (of_decide_eq_false h46) fun k => of_decide_eq_false h64 k.2)
      | exact fun g => (g.2.elim (of_decide_eq_false h46) fun k => of_decide_eq_false h54 k.1)
  exact ⟨c, by rw [hJ, if_neg (of_decide_eq_false h31), if_neg hl], hc, hs.to⟩
  refine D.skipP 7 rfl (by kernel_rfl) rfl rfl rfl (fun _ => hs.to) ?_
  refine D.skipP 8 rfl (by kernel_rfl) rfl rfl rfl (fun _ => hs.to) ?_
  refine D.skipP 9 rfl (by kernel_rfl) rfl rfl rfl (fun _ => hs.to) ?_
  refine D.skipP 10 rfl (by kernel_rfl) rfl rfl rfl (fun _ => hs.to) ?_
  refine D.skipP 11 rfl (by kernel_rfl) rfl rfl rfl (fun _ => hs.to) ?_
  refine D.skip 12 rfl (by kernel_rfl) rfl rfl rfl hs.to ?_
  refine D.skipP 13 rfl (by kernel_rfl) rfl rfl rfl (fun _ => hs.to) ?_
  refine D.skipP 14 rfl (by kernel_rfl) rfl rfl rfl (fun _ => hs.to) ?_
  refine D.undefP 15 rfl (by kernel_rfl) rfl rfl (fun _ => hs.to) ?_
  refine D.undefP 16 rfl (by kernel_rfl) rfl rfl (fun _ => hs.to) ?_
  refine D.undefP 17 rfl (by kernel_rfl) rfl rfl (fun _ => hs.to) ?_
  refine D.undefP 18 rfl (by kernel_rfl) rfl rfl (fun _ => hs.to) ?_
  refine D.undefP 19 rfl (by kernel_rfl) rfl rfl (fun _ => hs.to) ?_
  refine D.undef 20 rfl (by kernel_rfl) rfl rfl hs.to ?_
  refine D.undefP 21 rfl (by kernel_rfl) rfl rfl (fun _ => hs.to) ?_
  refine D.undefP 22 rfl (by kernel_rfl) rfl rfl (fun _ => hs.to) ?_
  refine D.undefP 24 rfl (by kernel_rfl) rfl rfl (fun _ => hs.to) ?_
  refine D.undefP 25 rfl (by kernel_rfl) rfl rfl (fun _ => hs.to) ?_
  refine D.undefP 26 rfl (by kernel_rfl) rfl rfl (fun _ => hs.to) ?_
  refine D.undefP 27 rfl (by kernel_rfl) rfl rfl (fun _ => hs.to) ?_
  refine D.undef 23 rfl (by kernel_rfl) rfl rfl hs.to ?_
  refine D.undef 28 rfl (by kernel_rfl) rfl rfl hs.to ?_
  refine D.undefP 29 rfl (by kernel_rfl) rfl rfl (fun _ => hs.to) ?_
  refine D.undefP 30 rfl (by kernel_rfl) rfl rfl (fun _ => hs.to) ?_
  refine D.skipP 31 rfl (by kernel_rfl) rfl rfl rfl (fun _ => hs.to) ?_
  refine D.evP 32 rfl (by kernel_rfl) rfl (fun _ => hs.to) (fun _ => E.pickF rfl rfl) ?_
  refine D.done rfl (by kernel_rfl) ?_
  refine X.keep [(64, _)] ⟨rfl, trivial⟩ ?_
  refine X.next ?_
  refine C.cfalse rfl ?_
  refine C.skip ?_
  refine X.next ?_
  refine C.seq ?_
  refine C.region ?_
  refine R.ev rfl (E.assign rfl) ?_
  refine R.done ?_
  refine X.keep [(12, _)] ⟨rfl, trivial⟩ ?_
  refine X.next ?_
  refine C.ret ?_
  refine X.thenRet ?_
  refine X.ret1 rfl rfl ?_
  have hl : ¬ (y.lim ≠ -1 ∧ (y.lim < leaf ∨ (leaf = y.lim ∧ id ≠ y.nx))) := by
    first
      | (have h38 := of_decide_eq_false h38; exact fun g => g.1 (hyl.resolve_right h38))
      | exact fun g => (g.2.elim (of_decide_eq_false h46) fun k => of_decide_eq_false h64 k.2)
      | exact fun g => (g.2.elim (of_decide_eq_false h46) fun k => of_decide_eq_false h54 k.1)
  exact ⟨c, by rw [hJ, if_neg (of_decide_eq_false h31), if_neg hl], hc, hs.to⟩
  refine C.skip ?_
  refine X.next ?_
  refine C.seq ?_
  refine C.seq ?_
  refine C.region ?_
  have hout : ¬ (0 ≤ n ∧ n < c.length) := by
    first
      | (have h19 := of_decide_eq_false h19; omega)
      | omega
  have hJ := judge_out (a := a) (q := q) (leaf := leaf) (id := id) hout
  refine R.ev rfl (E.move rfl) ?_
  refine R.ev rfl (E.neq rfl rfl) ?_
  refine R.done ?_
  refine X.keep [(7, _), (9, _), (66, _)] ⟨rfl, rfl, rfl, trivial⟩ ?_
  refine X.next ?_
  refine C.cdec rfl (fun h66 => ?_) (fun h66 => ?_)
  refine C.seq ?_
  refine C.region ?_
  refine R.ev rfl (E.assign rfl) ?_
  refine R.done ?_
  refine X.keep [(12, _)] ⟨rfl, trivial⟩ ?_
  refine X.next ?_
  refine C.ret ?_
  refine X.thenRet ?_
  refine X.ret1 rfl rfl ?_
  exact ⟨c, by rw [hJ, if_pos h66], hc, hs.to⟩
  refine C.skip ?_
  refine X.next ?_
  refine C.seq ?_
  refine C.seq ?_
  refine C.drawn (SatS hs) ([0, 3, 5], [2, 6, 7]) (by kernel_rfl) ?_
  have hs := hs.drew
  refine D.ev 0 rfl (by kernel_rfl) rfl hs.to (fun _ hS => E.loadRowC rfl Tryd.underlying32 rfl Tryd.sz32 (by exact ⟨hS.ldA, by exact Enc.len _⟩)) ?_
  refine D.act 1 rfl (by kernel_rfl) ?_
  refine R.call ⟨_, _, Tryd.func38, rfl, by kernel_rfl⟩ rfl rfl (rfine_any q hs) ?_
  rintro _ w101 ⟨rfl, hs⟩
  refine D.back hs.to ?_
  refine D.evP 2 rfl (by kernel_rfl) rfl (fun _ => hs.to) (fun _ => E.move rfl) ?_
  refine D.split 69 rfl (fun h69 => ?_) (fun h69 => ?_)
  refine D.evG 3 rfl (by kernel_rfl) rfl rfl rfl hs.to (fun _ hS => E.loadRowC rfl Tryd.underlying32 rfl Tryd.sz32 (by exact ⟨hS.ldA, by exact Enc.len _⟩)) ?_
  refine D.evG 5 rfl (by kernel_rfl) rfl rfl rfl hs.to (fun _ hS => E.loadRowC rfl Tryd.underlying29 rfl Tryd.sz29 (by exact ⟨hS.ldA, by assumption⟩)) ?_
  refine D.act 4 rfl (by kernel_rfl) ?_
  refine R.gyes rfl rfl ?_
  refine R.call ⟨_, _, Tryd.func13, rfl, by kernel_rfl⟩ rfl rfl (rOf_any q hs) ?_
  rintro _ w104 ⟨rfl, hs⟩
  refine D.back hs.to ?_
  refine D.evPG 6 rfl (by kernel_rfl) rfl rfl rfl (fun _ => hs.to) (fun _ => (E.eqV 10 (a := ofP q) (b := a) rfl rfl Tryd.lv29 rfl Tryd.underlying29 rfl Tryd.gd29)) ?_
  refine D.evP 7 rfl (by kernel_rfl) rfl (fun _ => hs.to) (fun _ => E.pickT rfl rfl) ?_
  refine D.done rfl (by kernel_rfl) ?_
  refine X.keep [(74, _)] ⟨rfl, trivial⟩ ?_
  refine X.next ?_
  refine C.cbool rfl (fun h74 => ?_) (fun h74 => ?_)
  refine C.seq ?_
  refine C.region ?_
  refine R.ev rfl (E.assign rfl) ?_
  refine R.done ?_
  refine X.keep [(12, _)] ⟨rfl, trivial⟩ ?_
  refine X.next ?_
  refine C.ret ?_
  refine X.thenRet ?_
  refine X.ret1 rfl rfl ?_
  exact ⟨c, by rw [hJ, if_neg h66, if_pos ⟨h69, of_decide_eq_true h74⟩], hc, hs.to⟩
  refine C.skip ?_
  refine X.next ?_
  refine C.seq ?_
  refine C.region ?_
  refine R.ev rfl (E.assign rfl) ?_
  refine R.done ?_
  refine X.keep [(12, _)] ⟨rfl, trivial⟩ ?_
  refine X.next ?_
  refine C.ret ?_
  refine X.ret1 rfl rfl ?_
  have hl : ¬ (fine q = true ∧ ofP q = a) := by
    first
      | exact fun g => absurd (h69.symm.trans g.1) (by decide)
      | exact fun g => of_decide_eq_false h74 g.2
  exact ⟨c, by rw [hJ, if_neg h66, if_neg hl], hc, hs.to⟩
  refine D.skip 3 rfl (by kernel_rfl) rfl rfl rfl hs.to ?_
  refine D.skip 5 rfl (by kernel_rfl) rfl rfl rfl hs.to ?_
  refine D.act 4 rfl (by kernel_rfl) ?_
  refine R.gskip rfl rfl rfl ?_
  refine D.back hs.to ?_
  refine D.skipP 6 rfl (by kernel_rfl) rfl rfl rfl (fun _ => hs.to) ?_
  refine D.evP 7 rfl (by kernel_rfl) rfl (fun _ => hs.to) (fun _ => E.pickF rfl rfl) ?_
  refine D.done rfl (by kernel_rfl) ?_
  refine X.keep [(74, _)] ⟨rfl, trivial⟩ ?_
  refine X.next ?_
  refine C.cfalse rfl ?_
  refine C.skip ?_
  refine X.next ?_
  refine C.seq ?_
  refine C.region ?_
  refine R.ev rfl (E.assign rfl) ?_
  refine R.done ?_
  refine X.keep [(12, _)] ⟨rfl, trivial⟩ ?_
  refine X.next ?_
  refine C.ret ?_
  refine X.ret1 rfl rfl ?_
  have hl : ¬ (fine q = true ∧ ofP q = a) := by
    first
      | exact fun g => absurd (h69.symm.trans g.1) (by decide)
      | exact fun g => of_decide_eq_false h74 g.2
  exact ⟨c, by rw [hJ, if_neg h66, if_neg hl], hc, hs.to⟩
  refine R.gskip rfl rfl rfl ?_
  refine R.gskip rfl rfl rfl ?_
  refine R.gskip rfl rfl rfl ?_
  refine R.gskip rfl rfl rfl ?_
  refine R.ev rfl (E.pickF rfl rfl) ?_
  refine R.done ?_
  refine X.keep [(2, _), (4, _), (7, _), (9, _), (11, _), (13, _), (24, _)] ⟨rfl, rfl, rfl, rfl, rfl, rfl, rfl, trivial⟩ ?_
  refine X.next ?_
  refine C.cfalse rfl ?_
  refine C.skip ?_
  refine X.next ?_
  refine C.seq ?_
  refine C.seq ?_
  refine C.region ?_
  have hout : ¬ (0 ≤ n ∧ n < c.length) := by
    first
      | (have h19 := of_decide_eq_false h19; omega)
      | omega
  have hJ := judge_out (a := a) (q := q) (leaf := leaf) (id := id) hout
  refine R.ev rfl (E.move rfl) ?_
  refine R.ev rfl (E.neq rfl rfl) ?_
  refine R.done ?_
  refine X.keep [(7, _), (9, _), (66, _)] ⟨rfl, rfl, rfl, trivial⟩ ?_
  refine X.next ?_
  refine C.cdec rfl (fun h66 => ?_) (fun h66 => ?_)
  refine C.seq ?_
  refine C.region ?_
  refine R.ev rfl (E.assign rfl) ?_
  refine R.done ?_
  refine X.keep [(12, _)] ⟨rfl, trivial⟩ ?_
  refine X.next ?_
  refine C.ret ?_
  refine X.thenRet ?_
  refine X.ret1 rfl rfl ?_
  exact ⟨c, by rw [hJ, if_pos h66], hc, hs.to⟩
  refine C.skip ?_
  refine X.next ?_
  refine C.seq ?_
  refine C.seq ?_
  refine C.drawn (SatS hs) ([0, 3, 5], [2, 6, 7]) (by kernel_rfl) ?_
  have hs := hs.drew
  refine D.ev 0 rfl (by kernel_rfl) rfl hs.to (fun _ hS => E.loadRowC rfl Tryd.underlying32 rfl Tryd.sz32 (by exact ⟨hS.ldA, by exact Enc.len _⟩)) ?_
  refine D.act 1 rfl (by kernel_rfl) ?_
  refine R.call ⟨_, _, Tryd.func38, rfl, by kernel_rfl⟩ rfl rfl (rfine_any q hs) ?_
  rintro _ w101 ⟨rfl, hs⟩
  refine D.back hs.to ?_
  refine D.evP 2 rfl (by kernel_rfl) rfl (fun _ => hs.to) (fun _ => E.move rfl) ?_
  refine D.split 69 rfl (fun h69 => ?_) (fun h69 => ?_)
  refine D.evG 3 rfl (by kernel_rfl) rfl rfl rfl hs.to (fun _ hS => E.loadRowC rfl Tryd.underlying32 rfl Tryd.sz32 (by exact ⟨hS.ldA, by exact Enc.len _⟩)) ?_
  refine D.evG 5 rfl (by kernel_rfl) rfl rfl rfl hs.to (fun _ hS => E.loadRowC rfl Tryd.underlying29 rfl Tryd.sz29 (by exact ⟨hS.ldA, by assumption⟩)) ?_
  refine D.act 4 rfl (by kernel_rfl) ?_
  refine R.gyes rfl rfl ?_
  refine R.call ⟨_, _, Tryd.func13, rfl, by kernel_rfl⟩ rfl rfl (rOf_any q hs) ?_
  rintro _ w104 ⟨rfl, hs⟩
  refine D.back hs.to ?_
  refine D.evPG 6 rfl (by kernel_rfl) rfl rfl rfl (fun _ => hs.to) (fun _ => (E.eqV 10 (a := ofP q) (b := a) rfl rfl Tryd.lv29 rfl Tryd.underlying29 rfl Tryd.gd29)) ?_
  refine D.evP 7 rfl (by kernel_rfl) rfl (fun _ => hs.to) (fun _ => E.pickT rfl rfl) ?_
  refine D.done rfl (by kernel_rfl) ?_
  refine X.keep [(74, _)] ⟨rfl, trivial⟩ ?_
  refine X.next ?_
  refine C.cbool rfl (fun h74 => ?_) (fun h74 => ?_)
  refine C.seq ?_
  refine C.region ?_
  refine R.ev rfl (E.assign rfl) ?_
  refine R.done ?_
  refine X.keep [(12, _)] ⟨rfl, trivial⟩ ?_
  refine X.next ?_
  refine C.ret ?_
  refine X.thenRet ?_
  refine X.ret1 rfl rfl ?_
  exact ⟨c, by rw [hJ, if_neg h66, if_pos ⟨h69, of_decide_eq_true h74⟩], hc, hs.to⟩
  refine C.skip ?_
  refine X.next ?_
  refine C.seq ?_
  refine C.region ?_
  refine R.ev rfl (E.assign rfl) ?_
  refine R.done ?_
  refine X.keep [(12, _)] ⟨rfl, trivial⟩ ?_
  refine X.next ?_
  refine C.ret ?_
  refine X.ret1 rfl rfl ?_
  have hl : ¬ (fine q = true ∧ ofP q = a) := by
    first
      | exact fun g => absurd (h69.symm.trans g.1) (by decide)
      | exact fun g => of_decide_eq_false h74 g.2
  exact ⟨c, by rw [hJ, if_neg h66, if_neg hl], hc, hs.to⟩
  refine D.skip 3 rfl (by kernel_rfl) rfl rfl rfl hs.to ?_
  refine D.skip 5 rfl (by kernel_rfl) rfl rfl rfl hs.to ?_
  refine D.act 4 rfl (by kernel_rfl) ?_
  refine R.gskip rfl rfl rfl ?_
  refine D.back hs.to ?_
  refine D.skipP 6 rfl (by kernel_rfl) rfl rfl rfl (fun _ => hs.to) ?_
  refine D.evP 7 rfl (by kernel_rfl) rfl (fun _ => hs.to) (fun _ => E.pickF rfl rfl) ?_
  refine D.done rfl (by kernel_rfl) ?_
  refine X.keep [(74, _)] ⟨rfl, trivial⟩ ?_
  refine X.next ?_
  refine C.cfalse rfl ?_
  refine C.skip ?_
  refine X.next ?_
  refine C.seq ?_
  refine C.region ?_
  refine R.ev rfl (E.assign rfl) ?_
  refine R.done ?_
  refine X.keep [(12, _)] ⟨rfl, trivial⟩ ?_
  refine X.next ?_
  refine C.ret ?_
  refine X.ret1 rfl rfl ?_
  have hl : ¬ (fine q = true ∧ ofP q = a) := by
    first
      | exact fun g => absurd (h69.symm.trans g.1) (by decide)
      | exact fun g => of_decide_eq_false h74 g.2
  exact ⟨c, by rw [hJ, if_neg h66, if_neg hl], hc, hs.to⟩
end Go.Proofs.YtbkgibgomohdjaaDoor
