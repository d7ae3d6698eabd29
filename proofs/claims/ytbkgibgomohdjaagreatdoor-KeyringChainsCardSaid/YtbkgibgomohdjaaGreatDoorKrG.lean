/-
 Chapter 19, the reference: end, Chain, Judge.
-/
import Derived.Test.YtbkgibgomohdjaaGreatDoorKrF
namespace Go.Proofs.YtbkgibgomohdjaaGreatDoor
open Go.Eng Go.RowKit Go.Sort
variable {K : Kn} {Hs Rs : List Hl} {F : Hl} {w : World} {v : Value} {L : List RO}
theorem ends_snoc {M : List RO} {a : Vec 16} {n : Int} {q : PK} {y : RO} : ends (M ++ [y]) a n q = ends M a n q ++ if y.au = a ∧ y.n = n ∧ y.pu = q then [y] else [] := by
 unfold ends slotL
 rw [List.filter_append, List.filter_append]
 congr 1
 by_cases h : y.au = a ∧ y.n = n
 · obtain ⟨h1, h2⟩ := h
   rw [List.filter_cons_of_pos (by simp [atS, h1, h2])]
   by_cases h3 : y.pu = q
   · rw [if_pos ⟨h1, h2, h3⟩]; simp [h3]
   · rw [if_neg (fun g => h3 g.2.2)]; simp [h3]
 · rw [List.filter_cons_of_neg (by simpa [atS] using h), if_neg (fun g => h ⟨g.1, g.2.1⟩)]; rfl
theorem least_snoc_of {M : List RO} {a : Vec 16} {n : Int} {q : PK} {y e : RO} (h : Least ltO (ends M a n q) e) (hm : y.au = a ∧ y.n = n ∧ y.pu = q) : Least ltO (ends (M ++ [y]) a n q) (if ltO y e then y else e) := by
 rw [ends_snoc, if_pos hm]; exact Least.snoc ltO_swo h
theorem ltO_T {x y : RO} (h : x.leaf < y.leaf) : ltO x y = true := lt2_iff.2 (.inl h)
theorem ltO_E {x y : RO} (h1 : ¬ x.leaf < y.leaf) (h : x.leaf = y.leaf) : ltO x y = decide (cmpL x.id.1 y.id.1 < 0) := by
 rw [ltO, lt2, cmpI, if_neg h1, if_neg (by omega)]; rfl
theorem ltO_F {x y : RO} (h1 : ¬ x.leaf < y.leaf) (h : ¬ x.leaf = y.leaf) : ltO x y = false := lt2_false.2 (.inl (by omega))
/-- where the roll-over lies that ends a key -/
def EndP (L : List RO) (a : Vec 16) (n : Int) (q : PK) (z : Int) : Prop := (z = -1 ∧ ends L a n q = []) ∨ ∃ (i : Nat) (e : RO), z = i ∧ L[i]? = some e ∧ Least ltO (ends L a n q) e
theorem rend_any (a : Vec 16) (n : Int) (q : PK) (hs : Sat K w Hs) [hr : KRow encO 84 K v L] (hL : L.length ≤ 100000) : Ret Tryz.prog 22 #[v, idV a.1, .int .i64 n, .agg (encP q).toArray] w fun r w' => ∃ z, r = .int .i64 z ∧ EndP L a n q z ∧ Sat K w' Hs := by
 obtain ⟨ad, cap, rfl, hsl, hc⟩ := hr.ex
 have e1 := encV_len a
 refine Ret.enter (n := 73) (args := [.slice ad L.length cap, idV a.1, .int .i64 n, .agg (encP q).toArray]) Tryz.func22 rfl rfl ?_
 refine C.keep [(0, _), (1, _), (2, _), (3, _)] ⟨rfl, rfl, rfl, rfl, trivial⟩ (C.seq (C.region ?_))
 refine R.sboxA hs rfl rfl ?_
 intro b5 w5 hs
 refine R.sboxA hs rfl rfl ?_
 intro b7 w7 hs
 refine R.ev rfl (E.assign rfl) (R.done (X.keep [(0, _), (2, _), (5, _), (7, _)] ⟨rfl, rfl, rfl, rfl, trivial⟩ (X.next (C.seq (C.region (R.ev rfl (E.assign rfl) (R.done (X.keep [(0, _), (2, _), (5, _), (7, _), (9, _)] ⟨rfl, rfl, rfl, rfl, rfl, trivial⟩ ?_))))))))
 refine X.next (C.seq (C.seq (C.region (R.ev rfl (E.assign rfl) (R.done (X.keep [(0, _), (2, _), (5, _), (7, _), (9, _), (10, _)] ⟨rfl, rfl, rfl, rfl, rfl, rfl, trivial⟩ (X.next (C.block ?_))))))))
 refine C.loop (T := Nat × Int) [(0, _), (2, _), (5, _), (7, _)] (fun (k, z) => [(9, .int .i64 z), (10, .int .i64 (k : Nat))]) (fun (k, z) w' => k ≤ L.length ∧ ((z = -1 ∧ ends (L.take k) a n q = []) ∨ ∃ (i : Nat) (e : RO), z = i ∧ L[i]? = some e ∧ Least ltO (ends (L.take k) a n q) e) ∧ Sat K w' (row b7 31 (encP q) :: row b5 28 (a.1.map ub) :: Hs)) (fun (k, _) => L.length - k) ((0, -1)) ⟨rfl, rfl, rfl, rfl, rfl, rfl, trivial⟩ ⟨Nat.zero_le _, .inl ⟨rfl, rfl⟩, hs⟩ ?_
 rintro ⟨k, z⟩ w1 ⟨hk, hJ, hs⟩
 refine C.keep [(0, _), (2, _), (5, _), (7, _), (9, _), (10, _)] ⟨rfl, rfl, rfl, rfl, rfl, rfl, trivial⟩ (C.seq (C.seq (C.region ?_)))
 rcases hJ with ⟨rfl, h0⟩ | ⟨i, e, rfl, hi, he⟩
 refine R.ev rfl (E.move rfl) (R.ev rfl (E.move rfl) (R.ev rfl (E.lenSl rfl Tryz.underlying25) (R.ev rfl (E.lss rfl rfl) (R.done (X.keep [(0, _), (2, _), (5, _), (7, _), (9, _), (10, _), (15, _)] ⟨rfl, rfl, rfl, rfl, rfl, rfl, rfl, trivial⟩ (X.next ?_))))))
 refine C.cdec rfl (fun h15 => ?_) (fun h15 => ?_)
 obtain ⟨y, bk_y, of_y, hy, my, ly, rfl, Ay⟩ := hs.el (i := k) (ad := ad) (n := L.length) (c := cap) (by omega)
 have ay := Ay _ hs
 have hex : ∀ i' e', L[i']? = some e' → ∀ w', Sat K w' (row b7 31 (encP q) :: row b5 28 (a.1.map ub) :: Hs) → At w' bk_y (of_y + i' * 84) (encO e') := fun _ _ h => Sat.elAt (n := L.length) cap hs h
 refine C.skip (X.next (C.seq (C.block (C.seq (C.region (R.ev rfl (E.move rfl) (R.ev rfl (E.move rfl) ?_)))))))
 refine R.ev rfl (E.indexAddr (i := k) rfl rfl Tryz.underlying25 Tryz.sz69 rfl (by omega)) ?_
 refine R.ev rfl (E.loadRowC rfl Tryz.underlying69 rfl Tryz.sz69 (by exact ⟨by assumption, by assumption⟩)) ?_
 refine R.sallocA hs Tryz.zr69 rfl ?_
 intro b11 w11 hs
 refine R.cstoreAll hs rfl rfl Tryz.sz69 (by rfl) (by assumption) (by exact Enc.one _) ?_
 intro w5_5 hs
 try simp only [List.set_cons_zero, List.set_cons_succ] at hs
 refine R.done (X.keep [(0, _), (2, _), (5, _), (7, _), (9, _), (10, _), (11, _)] ⟨rfl, rfl, rfl, rfl, rfl, rfl, rfl, trivial⟩ (X.next (C.seq (C.seq (C.region (R.ev rfl (E.fieldAddr0 32 rfl Tryz.underlying69 rfl Tryz.sz28 rfl) (R.ev rfl (E.loadRowC rfl Tryz.underlying28 rfl Tryz.sz28 (by exact hs.ldp)) (R.ev rfl (E.loadRowC rfl Tryz.underlying28 rfl Tryz.sz28 (by exact ⟨hs.ldA, by assumption⟩)) ?_))))))))
 refine R.ev rfl (E.neV 10 rfl rfl Tryz.lv28 rfl Tryz.underlying28 rfl Tryz.gd28) (R.ev rfl (E.move rfl) ?_)
 refine R.split 26 rfl (fun h26 => ?_) (fun h26 => ?_)
 refine R.gskip rfl rfl rfl (R.gskip rfl rfl rfl (R.gskip rfl rfl rfl (R.gskip rfl rfl rfl (R.ev rfl (E.pickT rfl rfl) (R.ev rfl (E.move rfl) (R.gskip rfl rfl rfl (R.gskip rfl rfl rfl (R.gskip rfl rfl rfl ?_))))))))
 refine R.gskip rfl rfl rfl (R.ev rfl (E.pickT rfl rfl) (R.done (X.keep [(0, _), (2, _), (5, _), (7, _), (9, _), (10, _), (11, _), (37, _)] ⟨rfl, rfl, rfl, rfl, rfl, rfl, rfl, rfl, trivial⟩ (X.next (C.ctrue rfl (C.exit (X.thenExit (X.blockExit ?_))))))))
 refine X.next (C.region (R.ev rfl (E.move rfl) (R.ev rfl (E.add rfl rfl (by omega) (by omega)) (R.ev rfl (E.assign rfl) (R.done (X.keep [(0, _), (2, _), (5, _), (7, _), (9, _), (10, _)] ⟨rfl, rfl, rfl, rfl, rfl, rfl, trivial⟩ ?_))))))
 first
   | (have hm : ¬ (y.au = a ∧ y.n = n ∧ y.pu = q) := by
        exact fun g => of_decide_eq_true h26 g.1
      exact X.again (k + 1, -1) ⟨rfl, rfl, rfl, rfl, rfl, rfl, trivial⟩ ⟨by omega, .inl ⟨rfl, by rw [take_snoc hy, ends_snoc, if_neg hm, h0]; rfl⟩, hs.to⟩ (by show _ - _ < _ - _; omega))
   | (have hm : y.au = a ∧ y.n = n ∧ y.pu = q := ⟨Decidable.not_not.1 (of_decide_eq_false h26), Decidable.not_not.1 (of_decide_eq_false h32), Decidable.not_not.1 (of_decide_eq_false h37)⟩
      exact X.again (k + 1, (k : Int)) ⟨rfl, rfl, rfl, rfl, rfl, rfl, trivial⟩ ⟨by omega, .inr ⟨k, y, rfl, hy, by rw [take_snoc hy, ends_snoc, if_pos hm, h0]; exact Least.one ltO_swo y⟩, hs.to⟩ (by show _ - _ < _ - _; omega))
 refine R.gyes rfl rfl (R.ev rfl (E.fieldAddr0 48 rfl Tryz.underlying69 rfl Tryz.sz3 rfl) (R.gyes rfl rfl (R.ev rfl (E.load1 rfl Tryz.underlying3 rfl (by exact hs.ldc)) (R.gyes rfl rfl (R.ev rfl (E.move rfl) (R.gyes rfl rfl (R.ev rfl (E.neq rfl rfl) (R.ev rfl (E.pickF rfl rfl) ?_))))))))
 refine R.ev rfl (E.move rfl) ?_
 refine R.split 32 rfl (fun h32 => ?_) (fun h32 => ?_)
 refine R.gskip rfl rfl rfl (R.gskip rfl rfl rfl (R.gskip rfl rfl rfl (R.gskip rfl rfl rfl (R.ev rfl (E.pickT rfl rfl) (R.done (X.keep [(0, _), (2, _), (5, _), (7, _), (9, _), (10, _), (11, _), (37, _)] ⟨rfl, rfl, rfl, rfl, rfl, rfl, rfl, rfl, trivial⟩ (X.next (C.ctrue rfl ?_))))))))
 refine C.exit (X.thenExit (X.blockExit (X.next (C.region (R.ev rfl (E.move rfl) (R.ev rfl (E.add rfl rfl (by omega) (by omega)) (R.ev rfl (E.assign rfl) (R.done ?_))))))))
 refine X.keep [(0, _), (2, _), (5, _), (7, _), (9, _), (10, _)] ⟨rfl, rfl, rfl, rfl, rfl, rfl, trivial⟩ ?_
 first
   | (have hm : ¬ (y.au = a ∧ y.n = n ∧ y.pu = q) := by
        exact fun g => of_decide_eq_true h32 g.2.1
      exact X.again (k + 1, -1) ⟨rfl, rfl, rfl, rfl, rfl, rfl, trivial⟩ ⟨by omega, .inl ⟨rfl, by rw [take_snoc hy, ends_snoc, if_neg hm, h0]; rfl⟩, hs.to⟩ (by show _ - _ < _ - _; omega))
   | (have hm : y.au = a ∧ y.n = n ∧ y.pu = q := ⟨Decidable.not_not.1 (of_decide_eq_false h26), Decidable.not_not.1 (of_decide_eq_false h32), Decidable.not_not.1 (of_decide_eq_false h37)⟩
      exact X.again (k + 1, (k : Int)) ⟨rfl, rfl, rfl, rfl, rfl, rfl, trivial⟩ ⟨by omega, .inr ⟨k, y, rfl, hy, by rw [take_snoc hy, ends_snoc, if_pos hm, h0]; exact Least.one ltO_swo y⟩, hs.to⟩ (by show _ - _ < _ - _; omega))
 refine R.gyes rfl rfl (R.ev rfl (E.fieldAddr0 49 rfl Tryz.underlying69 rfl Tryz.sz31 rfl) (R.gyes rfl rfl (R.ev rfl (E.loadRowC rfl Tryz.underlying31 rfl Tryz.sz31 (by exact hs.ldp)) (R.gyes rfl rfl (R.ev rfl (E.loadRowC rfl Tryz.underlying31 rfl Tryz.sz31 (by exact ⟨hs.ldA, by exact Enc.len _⟩)) (R.gyes rfl rfl ?_))))))
 refine R.ev rfl ((E.neqAgg 10 rfl rfl Tryz.lv31 rfl Tryz.underlying31 rfl Tryz.gd31 (encP_fits y.pu) (encP_fits q)).isB (c := decide (y.pu ≠ q)) (by rw [encP_eq]; simp)) ?_
 refine R.ev rfl (E.pickF rfl rfl) (R.done (X.keep [(0, _), (2, _), (5, _), (7, _), (9, _), (10, _), (11, _), (37, _)] ⟨rfl, rfl, rfl, rfl, rfl, rfl, rfl, rfl, trivial⟩ (X.next ?_)))
 refine C.cbool rfl (fun h37 => ?_) (fun h37 => ?_)
 refine C.exit (X.thenExit (X.blockExit (X.next (C.region (R.ev rfl (E.move rfl) (R.ev rfl (E.add rfl rfl (by omega) (by omega)) (R.ev rfl (E.assign rfl) (R.done ?_))))))))
 refine X.keep [(0, _), (2, _), (5, _), (7, _), (9, _), (10, _)] ⟨rfl, rfl, rfl, rfl, rfl, rfl, trivial⟩ ?_
 first
   | (have hm : ¬ (y.au = a ∧ y.n = n ∧ y.pu = q) := by
        exact fun g => of_decide_eq_true h37 g.2.2
      exact X.again (k + 1, -1) ⟨rfl, rfl, rfl, rfl, rfl, rfl, trivial⟩ ⟨by omega, .inl ⟨rfl, by rw [take_snoc hy, ends_snoc, if_neg hm, h0]; rfl⟩, hs.to⟩ (by show _ - _ < _ - _; omega))
   | (have hm : y.au = a ∧ y.n = n ∧ y.pu = q := ⟨Decidable.not_not.1 (of_decide_eq_false h26), Decidable.not_not.1 (of_decide_eq_false h32), Decidable.not_not.1 (of_decide_eq_false h37)⟩
      exact X.again (k + 1, (k : Int)) ⟨rfl, rfl, rfl, rfl, rfl, rfl, trivial⟩ ⟨by omega, .inr ⟨k, y, rfl, hy, by rw [take_snoc hy, ends_snoc, if_pos hm, h0]; exact Least.one ltO_swo y⟩, hs.to⟩ (by show _ - _ < _ - _; omega))
 refine C.skip (X.next (C.seq ?_))
 refine C.drawn (SatS hs) ([4, 9, 14, 19], [0, 1, 2, 3, 5, 6, 7, 8, 10, 11, 12, 13, 15, 16, 17, 18, 20, 21, 22, 23, 24, 25, 26, 27, 28, 30, 31, 32]) (by kernel_rfl) ?_
 have hs := hs.drew
 refine D.evP 0 rfl (by kernel_rfl) rfl (fun _ => hs.to) (fun _ => E.move rfl) (D.evP 1 rfl (by kernel_rfl) rfl (fun _ => hs.to) (fun _ => (E.lss rfl rfl).isT (by decide)) (D.evP 2 rfl (by kernel_rfl) rfl (fun _ => hs.to) (fun _ => E.move rfl) (D.skipP 3 rfl (by kernel_rfl) rfl rfl rfl (fun _ => hs.to) (D.skipP 5 rfl (by kernel_rfl) rfl rfl rfl (fun _ => hs.to) (D.skipP 6 rfl (by kernel_rfl) rfl rfl rfl (fun _ => hs.to) (D.skipP 7 rfl (by kernel_rfl) rfl rfl rfl (fun _ => hs.to) (D.skipP 8 rfl (by kernel_rfl) rfl rfl rfl (fun _ => hs.to) (D.skip 4 rfl (by kernel_rfl) rfl rfl rfl hs.to ?_))))))))
 refine D.skip 9 rfl (by kernel_rfl) rfl rfl rfl hs.to (D.skipP 10 rfl (by kernel_rfl) rfl rfl rfl (fun _ => hs.to) (D.evP 11 rfl (by kernel_rfl) rfl (fun _ => hs.to) (fun _ => E.pickT rfl rfl) (D.evP 12 rfl (by kernel_rfl) rfl (fun _ => hs.to) (fun _ => E.move rfl) (D.skipP 13 rfl (by kernel_rfl) rfl rfl rfl (fun _ => hs.to) (D.skipP 15 rfl (by kernel_rfl) rfl rfl rfl (fun _ => hs.to) (D.skipP 16 rfl (by kernel_rfl) rfl rfl rfl (fun _ => hs.to) (D.skipP 17 rfl (by kernel_rfl) rfl rfl rfl (fun _ => hs.to) (D.skipP 18 rfl (by kernel_rfl) rfl rfl rfl (fun _ => hs.to) ?_))))))))
 refine D.skip 14 rfl (by kernel_rfl) rfl rfl rfl hs.to (D.skip 19 rfl (by kernel_rfl) rfl rfl rfl hs.to (D.skipP 20 rfl (by kernel_rfl) rfl rfl rfl (fun _ => hs.to) (D.skipP 21 rfl (by kernel_rfl) rfl rfl rfl (fun _ => hs.to) (D.undefP 22 rfl (by kernel_rfl) rfl rfl (fun _ => hs.to) (D.undefP 23 rfl (by kernel_rfl) rfl rfl (fun _ => hs.to) (D.undefP 24 rfl (by kernel_rfl) rfl rfl (fun _ => hs.to) (D.undefP 25 rfl (by kernel_rfl) rfl rfl (fun _ => hs.to) (D.undefP 26 rfl (by kernel_rfl) rfl rfl (fun _ => hs.to) ?_))))))))
 refine D.undefP 27 rfl (by kernel_rfl) rfl rfl (fun _ => hs.to) (D.undefP 28 rfl (by kernel_rfl) rfl rfl (fun _ => hs.to) (D.act 29 rfl (by kernel_rfl) (R.gundef rfl rfl (D.backT (by kernel_rfl) (D.undefP 30 rfl (by kernel_rfl) rfl rfl (np (by kernel_rfl)) (D.skipP 31 rfl (by kernel_rfl) rfl rfl rfl (np (by kernel_rfl)) (D.evP 32 rfl (by kernel_rfl) rfl (np (by kernel_rfl)) (fun _ => E.pickT rfl rfl) (D.done rfl (by kernel_rfl) ?_))))))))
 refine X.keep [(0, _), (2, _), (5, _), (7, _), (9, _), (10, _), (70, _)] ⟨rfl, rfl, rfl, rfl, rfl, rfl, rfl, trivial⟩ (X.next (C.ctrue rfl (C.region (R.ev rfl (E.move rfl) (R.ev rfl (E.assign rfl) (R.done (X.keep [(0, _), (2, _), (5, _), (7, _), (9, _), (10, _)] ⟨rfl, rfl, rfl, rfl, rfl, rfl, trivial⟩ (X.blockNormal ?_))))))))
 refine X.next (C.region (R.ev rfl (E.move rfl) (R.ev rfl (E.add rfl rfl (by omega) (by omega)) (R.ev rfl (E.assign rfl) (R.done (X.keep [(0, _), (2, _), (5, _), (7, _), (9, _), (10, _)] ⟨rfl, rfl, rfl, rfl, rfl, rfl, trivial⟩ ?_))))))
 first
   | (have hm : ¬ (y.au = a ∧ y.n = n ∧ y.pu = q) := by
        first
          | exact fun g => of_decide_eq_true h26 g.1
          | exact fun g => of_decide_eq_true h32 g.2.1
          | exact fun g => of_decide_eq_true h37 g.2.2
      exact X.again (k + 1, -1) ⟨rfl, rfl, rfl, rfl, rfl, rfl, trivial⟩ ⟨by omega, .inl ⟨rfl, by rw [take_snoc hy, ends_snoc, if_neg hm, h0]; rfl⟩, hs.to⟩ (by show _ - _ < _ - _; omega))
   | (have hm : y.au = a ∧ y.n = n ∧ y.pu = q := ⟨Decidable.not_not.1 (of_decide_eq_false h26), Decidable.not_not.1 (of_decide_eq_false h32), Decidable.not_not.1 (of_decide_eq_false h37)⟩
      exact X.again (k + 1, (k : Int)) ⟨rfl, rfl, rfl, rfl, rfl, rfl, trivial⟩ ⟨by omega, .inr ⟨k, y, rfl, hy, by rw [take_snoc hy, ends_snoc, if_pos hm, h0]; exact Least.one ltO_swo y⟩, hs.to⟩ (by show _ - _ < _ - _; omega))
 refine C.exit (X.thenExit (X.loopExit (X.blockExit (X.next (C.seq (C.region (R.ev rfl (E.move rfl) (R.ev rfl (E.assign rfl) ?_))))))))
 refine R.done (X.keep [(8, _)] ⟨rfl, trivial⟩ (X.next (C.ret (X.ret1 rfl rfl ?_))))
 exact ⟨-1, rfl, .inl ⟨rfl, by rw [List.take_of_length_le (show L.length ≤ k by omega)] at h0; exact h0⟩, hs.to⟩
 refine R.ev rfl (E.move rfl) (R.ev rfl (E.move rfl) (R.ev rfl (E.lenSl rfl Tryz.underlying25) (R.ev rfl (E.lss rfl rfl) (R.done (X.keep [(0, _), (2, _), (5, _), (7, _), (9, _), (10, _), (15, _)] ⟨rfl, rfl, rfl, rfl, rfl, rfl, rfl, trivial⟩ (X.next ?_))))))
 refine C.cdec rfl (fun h15 => ?_) (fun h15 => ?_)
 obtain ⟨y, bk_y, of_y, hy, my, ly, rfl, Ay⟩ := hs.el (i := k) (ad := ad) (n := L.length) (c := cap) (by omega)
 have ay := Ay _ hs
 have hex : ∀ i' e', L[i']? = some e' → ∀ w', Sat K w' (row b7 31 (encP q) :: row b5 28 (a.1.map ub) :: Hs) → At w' bk_y (of_y + i' * 84) (encO e') := fun _ _ h => Sat.elAt (n := L.length) cap hs h
 refine C.skip (X.next (C.seq (C.block (C.seq (C.region (R.ev rfl (E.move rfl) (R.ev rfl (E.move rfl) ?_)))))))
 refine R.ev rfl (E.indexAddr (i := k) rfl rfl Tryz.underlying25 Tryz.sz69 rfl (by omega)) ?_
 refine R.ev rfl (E.loadRowC rfl Tryz.underlying69 rfl Tryz.sz69 (by exact ⟨by assumption, by assumption⟩)) ?_
 refine R.sallocA hs Tryz.zr69 rfl ?_
 intro b11 w11 hs
 refine R.cstoreAll hs rfl rfl Tryz.sz69 (by rfl) (by assumption) (by exact Enc.one _) ?_
 intro w5_5 hs
 try simp only [List.set_cons_zero, List.set_cons_succ] at hs
 refine R.done (X.keep [(0, _), (2, _), (5, _), (7, _), (9, _), (10, _), (11, _)] ⟨rfl, rfl, rfl, rfl, rfl, rfl, rfl, trivial⟩ (X.next (C.seq (C.seq (C.region (R.ev rfl (E.fieldAddr0 32 rfl Tryz.underlying69 rfl Tryz.sz28 rfl) (R.ev rfl (E.loadRowC rfl Tryz.underlying28 rfl Tryz.sz28 (by exact hs.ldp)) (R.ev rfl (E.loadRowC rfl Tryz.underlying28 rfl Tryz.sz28 (by exact ⟨hs.ldA, by assumption⟩)) ?_))))))))
 refine R.ev rfl (E.neV 10 rfl rfl Tryz.lv28 rfl Tryz.underlying28 rfl Tryz.gd28) (R.ev rfl (E.move rfl) ?_)
 refine R.split 26 rfl (fun h26 => ?_) (fun h26 => ?_)
 refine R.gskip rfl rfl rfl (R.gskip rfl rfl rfl (R.gskip rfl rfl rfl (R.gskip rfl rfl rfl (R.ev rfl (E.pickT rfl rfl) (R.ev rfl (E.move rfl) (R.gskip rfl rfl rfl (R.gskip rfl rfl rfl (R.gskip rfl rfl rfl ?_))))))))
 refine R.gskip rfl rfl rfl (R.ev rfl (E.pickT rfl rfl) (R.done (X.keep [(0, _), (2, _), (5, _), (7, _), (9, _), (10, _), (11, _), (37, _)] ⟨rfl, rfl, rfl, rfl, rfl, rfl, rfl, rfl, trivial⟩ (X.next (C.ctrue rfl (C.exit (X.thenExit (X.blockExit ?_))))))))
 refine X.next (C.region (R.ev rfl (E.move rfl) (R.ev rfl (E.add rfl rfl (by omega) (by omega)) (R.ev rfl (E.assign rfl) (R.done (X.keep [(0, _), (2, _), (5, _), (7, _), (9, _), (10, _)] ⟨rfl, rfl, rfl, rfl, rfl, rfl, trivial⟩ ?_))))))
 first
   | (have hm : ¬ (y.au = a ∧ y.n = n ∧ y.pu = q) := by
        exact fun g => of_decide_eq_true h26 g.1
      exact X.again (k + 1, (i : Int)) ⟨rfl, rfl, rfl, rfl, rfl, rfl, trivial⟩ ⟨by omega, .inr ⟨i, e, rfl, hi, by rw [take_snoc hy, ends_snoc, if_neg hm, List.append_nil]; exact he⟩, hs.to⟩ (by show _ - _ < _ - _; omega))
   | (have hm : y.au = a ∧ y.n = n ∧ y.pu = q := ⟨Decidable.not_not.1 (of_decide_eq_false h26), Decidable.not_not.1 (of_decide_eq_false h32), Decidable.not_not.1 (of_decide_eq_false h37)⟩
      have hls := least_snoc_of he hm
      have hlt : ltO y e = true := by
        first
          | exact ltO_T (of_decide_eq_true h50)
          | (rw [ltO_E (of_decide_eq_false h50) (of_decide_eq_true h59)]; exact h70)
      rw [hlt, if_pos rfl] at hls
      exact X.again (k + 1, (k : Int)) ⟨rfl, rfl, rfl, rfl, rfl, rfl, trivial⟩ ⟨by omega, .inr ⟨k, y, rfl, hy, by rw [take_snoc hy]; exact hls⟩, hs.to⟩ (by show _ - _ < _ - _; omega))
   | (have hm : y.au = a ∧ y.n = n ∧ y.pu = q := ⟨Decidable.not_not.1 (of_decide_eq_false h26), Decidable.not_not.1 (of_decide_eq_false h32), Decidable.not_not.1 (of_decide_eq_false h37)⟩
      have hls := least_snoc_of he hm
      have hlt : ltO y e = false := by
        first
          | exact ltO_F (of_decide_eq_false h50) (of_decide_eq_false h59)
          | (rw [ltO_E (of_decide_eq_false h50) (of_decide_eq_true h59)]; exact h70)
      rw [hlt, if_neg (by decide)] at hls
      exact X.again (k + 1, (i : Int)) ⟨rfl, rfl, rfl, rfl, rfl, rfl, trivial⟩ ⟨by omega, .inr ⟨i, e, rfl, hi, by rw [take_snoc hy]; exact hls⟩, hs.to⟩ (by show _ - _ < _ - _; omega))
 refine R.gyes rfl rfl (R.ev rfl (E.fieldAddr0 48 rfl Tryz.underlying69 rfl Tryz.sz3 rfl) (R.gyes rfl rfl (R.ev rfl (E.load1 rfl Tryz.underlying3 rfl (by exact hs.ldc)) (R.gyes rfl rfl (R.ev rfl (E.move rfl) (R.gyes rfl rfl (R.ev rfl (E.neq rfl rfl) (R.ev rfl (E.pickF rfl rfl) ?_))))))))
 refine R.ev rfl (E.move rfl) ?_
 refine R.split 32 rfl (fun h32 => ?_) (fun h32 => ?_)
 refine R.gskip rfl rfl rfl (R.gskip rfl rfl rfl (R.gskip rfl rfl rfl (R.gskip rfl rfl rfl (R.ev rfl (E.pickT rfl rfl) (R.done (X.keep [(0, _), (2, _), (5, _), (7, _), (9, _), (10, _), (11, _), (37, _)] ⟨rfl, rfl, rfl, rfl, rfl, rfl, rfl, rfl, trivial⟩ (X.next (C.ctrue rfl ?_))))))))
 refine C.exit (X.thenExit (X.blockExit (X.next (C.region (R.ev rfl (E.move rfl) (R.ev rfl (E.add rfl rfl (by omega) (by omega)) (R.ev rfl (E.assign rfl) (R.done ?_))))))))
 refine X.keep [(0, _), (2, _), (5, _), (7, _), (9, _), (10, _)] ⟨rfl, rfl, rfl, rfl, rfl, rfl, trivial⟩ ?_
 first
   | (have hm : ¬ (y.au = a ∧ y.n = n ∧ y.pu = q) := by
        exact fun g => of_decide_eq_true h32 g.2.1
      exact X.again (k + 1, (i : Int)) ⟨rfl, rfl, rfl, rfl, rfl, rfl, trivial⟩ ⟨by omega, .inr ⟨i, e, rfl, hi, by rw [take_snoc hy, ends_snoc, if_neg hm, List.append_nil]; exact he⟩, hs.to⟩ (by show _ - _ < _ - _; omega))
   | (have hm : y.au = a ∧ y.n = n ∧ y.pu = q := ⟨Decidable.not_not.1 (of_decide_eq_false h26), Decidable.not_not.1 (of_decide_eq_false h32), Decidable.not_not.1 (of_decide_eq_false h37)⟩
      have hls := least_snoc_of he hm
      have hlt : ltO y e = true := by
        first
          | exact ltO_T (of_decide_eq_true h50)
          | (rw [ltO_E (of_decide_eq_false h50) (of_decide_eq_true h59)]; exact h70)
      rw [hlt, if_pos rfl] at hls
      exact X.again (k + 1, (k : Int)) ⟨rfl, rfl, rfl, rfl, rfl, rfl, trivial⟩ ⟨by omega, .inr ⟨k, y, rfl, hy, by rw [take_snoc hy]; exact hls⟩, hs.to⟩ (by show _ - _ < _ - _; omega))
   | (have hm : y.au = a ∧ y.n = n ∧ y.pu = q := ⟨Decidable.not_not.1 (of_decide_eq_false h26), Decidable.not_not.1 (of_decide_eq_false h32), Decidable.not_not.1 (of_decide_eq_false h37)⟩
      have hls := least_snoc_of he hm
      have hlt : ltO y e = false := by
        first
          | exact ltO_F (of_decide_eq_false h50) (of_decide_eq_false h59)
          | (rw [ltO_E (of_decide_eq_false h50) (of_decide_eq_true h59)]; exact h70)
      rw [hlt, if_neg (by decide)] at hls
      exact X.again (k + 1, (i : Int)) ⟨rfl, rfl, rfl, rfl, rfl, rfl, trivial⟩ ⟨by omega, .inr ⟨i, e, rfl, hi, by rw [take_snoc hy]; exact hls⟩, hs.to⟩ (by show _ - _ < _ - _; omega))
 refine R.gyes rfl rfl (R.ev rfl (E.fieldAddr0 49 rfl Tryz.underlying69 rfl Tryz.sz31 rfl) (R.gyes rfl rfl (R.ev rfl (E.loadRowC rfl Tryz.underlying31 rfl Tryz.sz31 (by exact hs.ldp)) (R.gyes rfl rfl (R.ev rfl (E.loadRowC rfl Tryz.underlying31 rfl Tryz.sz31 (by exact ⟨hs.ldA, by exact Enc.len _⟩)) (R.gyes rfl rfl ?_))))))
 refine R.ev rfl ((E.neqAgg 10 rfl rfl Tryz.lv31 rfl Tryz.underlying31 rfl Tryz.gd31 (encP_fits y.pu) (encP_fits q)).isB (c := decide (y.pu ≠ q)) (by rw [encP_eq]; simp)) ?_
 refine R.ev rfl (E.pickF rfl rfl) (R.done (X.keep [(0, _), (2, _), (5, _), (7, _), (9, _), (10, _), (11, _), (37, _)] ⟨rfl, rfl, rfl, rfl, rfl, rfl, rfl, rfl, trivial⟩ (X.next ?_)))
 refine C.cbool rfl (fun h37 => ?_) (fun h37 => ?_)
 refine C.exit (X.thenExit (X.blockExit (X.next (C.region (R.ev rfl (E.move rfl) (R.ev rfl (E.add rfl rfl (by omega) (by omega)) (R.ev rfl (E.assign rfl) (R.done ?_))))))))
 refine X.keep [(0, _), (2, _), (5, _), (7, _), (9, _), (10, _)] ⟨rfl, rfl, rfl, rfl, rfl, rfl, trivial⟩ ?_
 first
   | (have hm : ¬ (y.au = a ∧ y.n = n ∧ y.pu = q) := by
        exact fun g => of_decide_eq_true h37 g.2.2
      exact X.again (k + 1, (i : Int)) ⟨rfl, rfl, rfl, rfl, rfl, rfl, trivial⟩ ⟨by omega, .inr ⟨i, e, rfl, hi, by rw [take_snoc hy, ends_snoc, if_neg hm, List.append_nil]; exact he⟩, hs.to⟩ (by show _ - _ < _ - _; omega))
   | (have hm : y.au = a ∧ y.n = n ∧ y.pu = q := ⟨Decidable.not_not.1 (of_decide_eq_false h26), Decidable.not_not.1 (of_decide_eq_false h32), Decidable.not_not.1 (of_decide_eq_false h37)⟩
      have hls := least_snoc_of he hm
      have hlt : ltO y e = true := by
        first
          | exact ltO_T (of_decide_eq_true h50)
          | (rw [ltO_E (of_decide_eq_false h50) (of_decide_eq_true h59)]; exact h70)
      rw [hlt, if_pos rfl] at hls
      exact X.again (k + 1, (k : Int)) ⟨rfl, rfl, rfl, rfl, rfl, rfl, trivial⟩ ⟨by omega, .inr ⟨k, y, rfl, hy, by rw [take_snoc hy]; exact hls⟩, hs.to⟩ (by show _ - _ < _ - _; omega))
   | (have hm : y.au = a ∧ y.n = n ∧ y.pu = q := ⟨Decidable.not_not.1 (of_decide_eq_false h26), Decidable.not_not.1 (of_decide_eq_false h32), Decidable.not_not.1 (of_decide_eq_false h37)⟩
      have hls := least_snoc_of he hm
      have hlt : ltO y e = false := by
        first
          | exact ltO_F (of_decide_eq_false h50) (of_decide_eq_false h59)
          | (rw [ltO_E (of_decide_eq_false h50) (of_decide_eq_true h59)]; exact h70)
      rw [hlt, if_neg (by decide)] at hls
      exact X.again (k + 1, (i : Int)) ⟨rfl, rfl, rfl, rfl, rfl, rfl, trivial⟩ ⟨by omega, .inr ⟨i, e, rfl, hi, by rw [take_snoc hy]; exact hls⟩, hs.to⟩ (by show _ - _ < _ - _; omega))
 refine C.skip (X.next (C.seq ?_))
 refine C.drawn (SatS hs) ([4, 9, 14, 19], [0, 1, 2, 3, 5, 6, 7, 8, 10, 11, 12, 13, 15, 16, 17, 18, 20, 21, 22, 23, 24, 25, 26, 27, 28, 30, 31, 32]) (by kernel_rfl) ?_
 have hs := hs.drew
 refine D.evP 0 rfl (by kernel_rfl) rfl (fun _ => hs.to) (fun _ => E.move rfl) (D.evP 1 rfl (by kernel_rfl) rfl (fun _ => hs.to) (fun _ => (E.lss rfl rfl).isF (by omega)) (D.evP 2 rfl (by kernel_rfl) rfl (fun _ => hs.to) (fun _ => E.move rfl) (D.evPG 3 rfl (by kernel_rfl) rfl rfl rfl (fun _ => hs.to) (fun _ => E.fieldAddr0 66 rfl Tryz.underlying69 rfl Tryz.sz3 rfl) (D.evPG 5 rfl (by kernel_rfl) rfl rfl rfl (fun _ => hs.to) (fun _ => E.move rfl) (D.evPG 6 rfl (by kernel_rfl) rfl rfl rfl (fun _ => hs.to) (fun _ => E.move rfl) ?_)))))
 have hil := (List.getElem?_eq_some_iff.1 hi).1
 have Ae : ∀ w', Sat K w' (row b11 69 (encO y) :: row b7 31 (encP q) :: row b5 28 (a.1.map ub) :: Hs) → At w' bk_y (of_y + i * 84) (encO e) := fun w' h => hex i e hi w' h.to
 refine D.evPG 7 rfl (by kernel_rfl) rfl rfl rfl (fun _ => hs.to) (fun _ => E.indexAddr (i := i) rfl rfl Tryz.underlying25 Tryz.sz69 rfl hil) ?_
 refine D.evPG 8 rfl (by kernel_rfl) rfl rfl rfl (fun _ => hs.to) (fun _ => E.fieldAddrN 66 rfl Tryz.underlying69 rfl Tryz.sz3 rfl) (D.evG 4 rfl (by kernel_rfl) rfl rfl rfl hs.to (fun _ hS => E.load1 rfl Tryz.underlying3 rfl (by exact hS.ldc)) (D.evG 9 rfl (by kernel_rfl) rfl rfl rfl hs.to (fun _ hS => E.load1 rfl Tryz.underlying3 rfl (by exact At.cellC ((by assumption : ∀ w', Sat _ w' _ → At w' _ _ _) _ hS))) (D.evPG 10 rfl (by kernel_rfl) rfl rfl rfl (fun _ => hs.to) (fun _ => E.lss rfl rfl) (D.evP 11 rfl (by kernel_rfl) rfl (fun _ => hs.to) (fun _ => E.pickF rfl rfl) (D.evP 12 rfl (by kernel_rfl) rfl (fun _ => hs.to) (fun _ => E.move rfl) ?_)))))
 refine D.split 50 rfl (fun h50 => ?_) (fun h50 => ?_)
 refine D.skipP 13 rfl (by kernel_rfl) rfl rfl rfl (fun _ => hs.to) (D.skipP 15 rfl (by kernel_rfl) rfl rfl rfl (fun _ => hs.to) (D.skipP 16 rfl (by kernel_rfl) rfl rfl rfl (fun _ => hs.to) (D.skipP 17 rfl (by kernel_rfl) rfl rfl rfl (fun _ => hs.to) (D.skipP 18 rfl (by kernel_rfl) rfl rfl rfl (fun _ => hs.to) (D.skip 14 rfl (by kernel_rfl) rfl rfl rfl hs.to (D.skip 19 rfl (by kernel_rfl) rfl rfl rfl hs.to (D.skipP 20 rfl (by kernel_rfl) rfl rfl rfl (fun _ => hs.to) (D.skipP 21 rfl (by kernel_rfl) rfl rfl rfl (fun _ => hs.to) ?_))))))))
 refine D.undefP 22 rfl (by kernel_rfl) rfl rfl (fun _ => hs.to) (D.undefP 23 rfl (by kernel_rfl) rfl rfl (fun _ => hs.to) (D.undefP 24 rfl (by kernel_rfl) rfl rfl (fun _ => hs.to) (D.undefP 25 rfl (by kernel_rfl) rfl rfl (fun _ => hs.to) (D.undefP 26 rfl (by kernel_rfl) rfl rfl (fun _ => hs.to) (D.undefP 27 rfl (by kernel_rfl) rfl rfl (fun _ => hs.to) (D.undefP 28 rfl (by kernel_rfl) rfl rfl (fun _ => hs.to) (D.act 29 rfl (by kernel_rfl) (R.gundef rfl rfl ?_))))))))
 refine D.backT (by kernel_rfl) (D.undefP 30 rfl (by kernel_rfl) rfl rfl (np (by kernel_rfl)) (D.skipP 31 rfl (by kernel_rfl) rfl rfl rfl (np (by kernel_rfl)) (D.evP 32 rfl (by kernel_rfl) rfl (np (by kernel_rfl)) (fun _ => E.pickT rfl rfl) (D.done rfl (by kernel_rfl) (X.keep [(0, _), (2, _), (5, _), (7, _), (9, _), (10, _), (70, _)] ⟨rfl, rfl, rfl, rfl, rfl, rfl, rfl, trivial⟩ (X.next (C.ctrue rfl (C.region ?_))))))))
 refine R.ev rfl (E.move rfl) (R.ev rfl (E.assign rfl) (R.done (X.keep [(0, _), (2, _), (5, _), (7, _), (9, _), (10, _)] ⟨rfl, rfl, rfl, rfl, rfl, rfl, trivial⟩ (X.blockNormal (X.next (C.region (R.ev rfl (E.move rfl) (R.ev rfl (E.add rfl rfl (by omega) (by omega)) ?_))))))))
 refine R.ev rfl (E.assign rfl) (R.done (X.keep [(0, _), (2, _), (5, _), (7, _), (9, _), (10, _)] ⟨rfl, rfl, rfl, rfl, rfl, rfl, trivial⟩ ?_))
 first
   | (have hm : ¬ (y.au = a ∧ y.n = n ∧ y.pu = q) := by
        first
          | exact fun g => of_decide_eq_true h26 g.1
          | exact fun g => of_decide_eq_true h32 g.2.1
          | exact fun g => of_decide_eq_true h37 g.2.2
      exact X.again (k + 1, (i : Int)) ⟨rfl, rfl, rfl, rfl, rfl, rfl, trivial⟩ ⟨by omega, .inr ⟨i, e, rfl, hi, by rw [take_snoc hy, ends_snoc, if_neg hm, List.append_nil]; exact he⟩, hs.to⟩ (by show _ - _ < _ - _; omega))
   | (have hm : y.au = a ∧ y.n = n ∧ y.pu = q := ⟨Decidable.not_not.1 (of_decide_eq_false h26), Decidable.not_not.1 (of_decide_eq_false h32), Decidable.not_not.1 (of_decide_eq_false h37)⟩
      have hls := least_snoc_of he hm
      have hlt : ltO y e = true := by
        exact ltO_T (of_decide_eq_true h50)
      rw [hlt, if_pos rfl] at hls
      exact X.again (k + 1, (k : Int)) ⟨rfl, rfl, rfl, rfl, rfl, rfl, trivial⟩ ⟨by omega, .inr ⟨k, y, rfl, hy, by rw [take_snoc hy]; exact hls⟩, hs.to⟩ (by show _ - _ < _ - _; omega))
   | (have hm : y.au = a ∧ y.n = n ∧ y.pu = q := ⟨Decidable.not_not.1 (of_decide_eq_false h26), Decidable.not_not.1 (of_decide_eq_false h32), Decidable.not_not.1 (of_decide_eq_false h37)⟩
      have hls := least_snoc_of he hm
      have hlt : ltO y e = false := by
        first
          | exact ltO_F (of_decide_eq_false h50) (of_decide_eq_false h59)
          | (rw [ltO_E (of_decide_eq_false h50) (of_decide_eq_true h59)]; exact h70)
      rw [hlt, if_neg (by decide)] at hls
      exact X.again (k + 1, (i : Int)) ⟨rfl, rfl, rfl, rfl, rfl, rfl, trivial⟩ ⟨by omega, .inr ⟨i, e, rfl, hi, by rw [take_snoc hy]; exact hls⟩, hs.to⟩ (by show _ - _ < _ - _; omega))
 refine D.evPG 13 rfl (by kernel_rfl) rfl rfl rfl (fun _ => hs.to) (fun _ => E.fieldAddr0 66 rfl Tryz.underlying69 rfl Tryz.sz3 rfl) (D.evPG 15 rfl (by kernel_rfl) rfl rfl rfl (fun _ => hs.to) (fun _ => E.move rfl) (D.evPG 16 rfl (by kernel_rfl) rfl rfl rfl (fun _ => hs.to) (fun _ => E.move rfl) ?_))
 refine D.evPG 17 rfl (by kernel_rfl) rfl rfl rfl (fun _ => hs.to) (fun _ => E.indexAddr (i := i) rfl rfl Tryz.underlying25 Tryz.sz69 rfl hil) ?_
 refine D.evPG 18 rfl (by kernel_rfl) rfl rfl rfl (fun _ => hs.to) (fun _ => E.fieldAddrN 66 rfl Tryz.underlying69 rfl Tryz.sz3 rfl) (D.evG 14 rfl (by kernel_rfl) rfl rfl rfl hs.to (fun _ hS => E.load1 rfl Tryz.underlying3 rfl (by exact hS.ldc)) (D.evG 19 rfl (by kernel_rfl) rfl rfl rfl hs.to (fun _ hS => E.load1 rfl Tryz.underlying3 rfl (by exact At.cellC ((by assumption : ∀ w', Sat _ w' _ → At w' _ _ _) _ hS))) (D.evPG 20 rfl (by kernel_rfl) rfl rfl rfl (fun _ => hs.to) (fun _ => E.eql rfl rfl) (D.evPG 21 rfl (by kernel_rfl) rfl rfl rfl (fun _ => hs.to) (fun _ => E.move rfl) ?_))))
 refine D.split 59 rfl (fun h59 => ?_) (fun h59 => ?_)
 refine D.evPG 22 rfl (by kernel_rfl) rfl rfl rfl (fun _ => hs.to) (fun _ => E.fieldAddr0 0 rfl Tryz.underlying69 rfl Tryz.sz36 rfl) (D.evPG 23 rfl (by kernel_rfl) rfl rfl rfl (fun _ => hs.to) (fun _ => E.sliceA rfl Tryz.underlying36 Tryz.sz5) (D.evPG 24 rfl (by kernel_rfl) rfl rfl rfl (fun _ => hs.to) (fun _ => E.move rfl) (D.evPG 25 rfl (by kernel_rfl) rfl rfl rfl (fun _ => hs.to) (fun _ => E.move rfl) ?_)))
 refine D.evPG 26 rfl (by kernel_rfl) rfl rfl rfl (fun _ => hs.to) (fun _ => E.indexAddr (i := i) rfl rfl Tryz.underlying25 Tryz.sz69 rfl hil) ?_
 refine D.evPG 27 rfl (by kernel_rfl) rfl rfl rfl (fun _ => hs.to) (fun _ => E.fieldAddrN 0 rfl Tryz.underlying69 rfl Tryz.sz36 rfl) (D.evPG 28 rfl (by kernel_rfl) rfl rfl rfl (fun _ => hs.to) (fun _ => E.sliceA rfl Tryz.underlying36 Tryz.sz5) (D.act 29 rfl (by kernel_rfl) (R.gyes rfl rfl ?_)))
 refine R.call ⟨_, _, Tryz.func27, rfl, by kernel_rfl⟩ rfl rfl (rcompare_any y.id e.id (by decide) hs (fun _ h => (h.ldp (b := b11) (m := 32) (l := encO y)).1) (fun w' h => (At.partC (i := 0) (m := 32) (Ae w' h)).1)) ?_
 rintro _ w729 ⟨rfl, hs⟩
 refine D.backT (by kernel_rfl) (D.evPG 30 rfl (by kernel_rfl) rfl rfl rfl (np (by kernel_rfl)) (fun _ => E.lss rfl rfl) (D.evPG 31 rfl (by kernel_rfl) rfl rfl rfl (np (by kernel_rfl)) (fun _ => E.pickT rfl rfl) (D.evP 32 rfl (by kernel_rfl) rfl (np (by kernel_rfl)) (fun _ => E.pickF rfl rfl) (D.done rfl (by kernel_rfl) (X.keep [(0, _), (2, _), (5, _), (7, _), (9, _), (10, _), (70, _)] ⟨rfl, rfl, rfl, rfl, rfl, rfl, rfl, trivial⟩ (X.next ?_))))))
 refine C.cbool rfl (fun h70 => ?_) (fun h70 => ?_)
 refine C.region (R.ev rfl (E.move rfl) (R.ev rfl (E.assign rfl) (R.done (X.keep [(0, _), (2, _), (5, _), (7, _), (9, _), (10, _)] ⟨rfl, rfl, rfl, rfl, rfl, rfl, trivial⟩ (X.blockNormal (X.next (C.region (R.ev rfl (E.move rfl) ?_))))))))
 refine R.ev rfl (E.add rfl rfl (by omega) (by omega)) (R.ev rfl (E.assign rfl) (R.done (X.keep [(0, _), (2, _), (5, _), (7, _), (9, _), (10, _)] ⟨rfl, rfl, rfl, rfl, rfl, rfl, trivial⟩ ?_)))
 first
   | (have hm : ¬ (y.au = a ∧ y.n = n ∧ y.pu = q) := by
        first
          | exact fun g => of_decide_eq_true h26 g.1
          | exact fun g => of_decide_eq_true h32 g.2.1
          | exact fun g => of_decide_eq_true h37 g.2.2
      exact X.again (k + 1, (i : Int)) ⟨rfl, rfl, rfl, rfl, rfl, rfl, trivial⟩ ⟨by omega, .inr ⟨i, e, rfl, hi, by rw [take_snoc hy, ends_snoc, if_neg hm, List.append_nil]; exact he⟩, hs.to⟩ (by show _ - _ < _ - _; omega))
   | (have hm : y.au = a ∧ y.n = n ∧ y.pu = q := ⟨Decidable.not_not.1 (of_decide_eq_false h26), Decidable.not_not.1 (of_decide_eq_false h32), Decidable.not_not.1 (of_decide_eq_false h37)⟩
      have hls := least_snoc_of he hm
      have hlt : ltO y e = true := by
        (rw [ltO_E (of_decide_eq_false h50) (of_decide_eq_true h59)]; exact h70)
      rw [hlt, if_pos rfl] at hls
      exact X.again (k + 1, (k : Int)) ⟨rfl, rfl, rfl, rfl, rfl, rfl, trivial⟩ ⟨by omega, .inr ⟨k, y, rfl, hy, by rw [take_snoc hy]; exact hls⟩, hs.to⟩ (by show _ - _ < _ - _; omega))
   | (have hm : y.au = a ∧ y.n = n ∧ y.pu = q := ⟨Decidable.not_not.1 (of_decide_eq_false h26), Decidable.not_not.1 (of_decide_eq_false h32), Decidable.not_not.1 (of_decide_eq_false h37)⟩
      have hls := least_snoc_of he hm
      have hlt : ltO y e = false := by
        first
          | exact ltO_F (of_decide_eq_false h50) (of_decide_eq_false h59)
          | (rw [ltO_E (of_decide_eq_false h50) (of_decide_eq_true h59)]; exact h70)
      rw [hlt, if_neg (by decide)] at hls
      exact X.again (k + 1, (i : Int)) ⟨rfl, rfl, rfl, rfl, rfl, rfl, trivial⟩ ⟨by omega, .inr ⟨i, e, rfl, hi, by rw [take_snoc hy]; exact hls⟩, hs.to⟩ (by show _ - _ < _ - _; omega))
 refine C.skip (X.blockNormal (X.next (C.region (R.ev rfl (E.move rfl) (R.ev rfl (E.add rfl rfl (by omega) (by omega)) (R.ev rfl (E.assign rfl) (R.done (X.keep [(0, _), (2, _), (5, _), (7, _), (9, _), (10, _)] ⟨rfl, rfl, rfl, rfl, rfl, rfl, trivial⟩ ?_))))))))
 first
   | (have hm : ¬ (y.au = a ∧ y.n = n ∧ y.pu = q) := by
        first
          | exact fun g => of_decide_eq_true h26 g.1
          | exact fun g => of_decide_eq_true h32 g.2.1
          | exact fun g => of_decide_eq_true h37 g.2.2
      exact X.again (k + 1, (i : Int)) ⟨rfl, rfl, rfl, rfl, rfl, rfl, trivial⟩ ⟨by omega, .inr ⟨i, e, rfl, hi, by rw [take_snoc hy, ends_snoc, if_neg hm, List.append_nil]; exact he⟩, hs.to⟩ (by show _ - _ < _ - _; omega))
   | (have hm : y.au = a ∧ y.n = n ∧ y.pu = q := ⟨Decidable.not_not.1 (of_decide_eq_false h26), Decidable.not_not.1 (of_decide_eq_false h32), Decidable.not_not.1 (of_decide_eq_false h37)⟩
      have hls := least_snoc_of he hm
      have hlt : ltO y e = true := by
        first
          | exact ltO_T (of_decide_eq_true h50)
          | (rw [ltO_E (of_decide_eq_false h50) (of_decide_eq_true h59)]; exact h70)
      rw [hlt, if_pos rfl] at hls
      exact X.again (k + 1, (k : Int)) ⟨rfl, rfl, rfl, rfl, rfl, rfl, trivial⟩ ⟨by omega, .inr ⟨k, y, rfl, hy, by rw [take_snoc hy]; exact hls⟩, hs.to⟩ (by show _ - _ < _ - _; omega))
   | (have hm : y.au = a ∧ y.n = n ∧ y.pu = q := ⟨Decidable.not_not.1 (of_decide_eq_false h26), Decidable.not_not.1 (of_decide_eq_false h32), Decidable.not_not.1 (of_decide_eq_false h37)⟩
      have hls := least_snoc_of he hm
      have hlt : ltO y e = false := by
        (rw [ltO_E (of_decide_eq_false h50) (of_decide_eq_true h59)]; exact h70)
      rw [hlt, if_neg (by decide)] at hls
      exact X.again (k + 1, (i : Int)) ⟨rfl, rfl, rfl, rfl, rfl, rfl, trivial⟩ ⟨by omega, .inr ⟨i, e, rfl, hi, by rw [take_snoc hy]; exact hls⟩, hs.to⟩ (by show _ - _ < _ - _; omega))
 refine D.skipP 22 rfl (by kernel_rfl) rfl rfl rfl (fun _ => hs.to) (D.skipP 23 rfl (by kernel_rfl) rfl rfl rfl (fun _ => hs.to) (D.skipP 24 rfl (by kernel_rfl) rfl rfl rfl (fun _ => hs.to) (D.skipP 25 rfl (by kernel_rfl) rfl rfl rfl (fun _ => hs.to) (D.skipP 26 rfl (by kernel_rfl) rfl rfl rfl (fun _ => hs.to) (D.skipP 27 rfl (by kernel_rfl) rfl rfl rfl (fun _ => hs.to) (D.skipP 28 rfl (by kernel_rfl) rfl rfl rfl (fun _ => hs.to) (D.act 29 rfl (by kernel_rfl) (R.gskip rfl rfl rfl ?_))))))))
 refine D.backT (by kernel_rfl) (D.skipP 30 rfl (by kernel_rfl) rfl rfl rfl (np (by kernel_rfl)) (D.evPG 31 rfl (by kernel_rfl) rfl rfl rfl (np (by kernel_rfl)) (fun _ => E.pickF rfl rfl) (D.evP 32 rfl (by kernel_rfl) rfl (np (by kernel_rfl)) (fun _ => E.pickF rfl rfl) (D.done rfl (by kernel_rfl) (X.keep [(0, _), (2, _), (5, _), (7, _), (9, _), (10, _), (70, _)] ⟨rfl, rfl, rfl, rfl, rfl, rfl, rfl, trivial⟩ (X.next (C.cfalse rfl (C.skip ?_))))))))
 refine X.blockNormal (X.next (C.region (R.ev rfl (E.move rfl) (R.ev rfl (E.add rfl rfl (by omega) (by omega)) (R.ev rfl (E.assign rfl) (R.done (X.keep [(0, _), (2, _), (5, _), (7, _), (9, _), (10, _)] ⟨rfl, rfl, rfl, rfl, rfl, rfl, trivial⟩ ?_)))))))
 first
   | (have hm : ¬ (y.au = a ∧ y.n = n ∧ y.pu = q) := by
        first
          | exact fun g => of_decide_eq_true h26 g.1
          | exact fun g => of_decide_eq_true h32 g.2.1
          | exact fun g => of_decide_eq_true h37 g.2.2
      exact X.again (k + 1, (i : Int)) ⟨rfl, rfl, rfl, rfl, rfl, rfl, trivial⟩ ⟨by omega, .inr ⟨i, e, rfl, hi, by rw [take_snoc hy, ends_snoc, if_neg hm, List.append_nil]; exact he⟩, hs.to⟩ (by show _ - _ < _ - _; omega))
   | (have hm : y.au = a ∧ y.n = n ∧ y.pu = q := ⟨Decidable.not_not.1 (of_decide_eq_false h26), Decidable.not_not.1 (of_decide_eq_false h32), Decidable.not_not.1 (of_decide_eq_false h37)⟩
      have hls := least_snoc_of he hm
      have hlt : ltO y e = true := by
        first
          | exact ltO_T (of_decide_eq_true h50)
          | (rw [ltO_E (of_decide_eq_false h50) (of_decide_eq_true h59)]; exact h70)
      rw [hlt, if_pos rfl] at hls
      exact X.again (k + 1, (k : Int)) ⟨rfl, rfl, rfl, rfl, rfl, rfl, trivial⟩ ⟨by omega, .inr ⟨k, y, rfl, hy, by rw [take_snoc hy]; exact hls⟩, hs.to⟩ (by show _ - _ < _ - _; omega))
   | (have hm : y.au = a ∧ y.n = n ∧ y.pu = q := ⟨Decidable.not_not.1 (of_decide_eq_false h26), Decidable.not_not.1 (of_decide_eq_false h32), Decidable.not_not.1 (of_decide_eq_false h37)⟩
      have hls := least_snoc_of he hm
      have hlt : ltO y e = false := by
        exact ltO_F (of_decide_eq_false h50) (of_decide_eq_false h59)
      rw [hlt, if_neg (by decide)] at hls
      exact X.again (k + 1, (i : Int)) ⟨rfl, rfl, rfl, rfl, rfl, rfl, trivial⟩ ⟨by omega, .inr ⟨i, e, rfl, hi, by rw [take_snoc hy]; exact hls⟩, hs.to⟩ (by show _ - _ < _ - _; omega))
 refine C.exit (X.thenExit (X.loopExit (X.blockExit (X.next (C.seq (C.region (R.ev rfl (E.move rfl) (R.ev rfl (E.assign rfl) ?_))))))))
 refine R.done (X.keep [(8, _)] ⟨rfl, trivial⟩ (X.next (C.ret (X.ret1 rfl rfl ?_))))
 exact ⟨i, rfl, .inr ⟨i, e, rfl, hi, by rw [List.take_of_length_le (show L.length ≤ k by omega)] at he; exact he⟩, hs.to⟩
end Go.Proofs.YtbkgibgomohdjaaGreatDoor
