/-
  Chapter 19, the reference: Judge.
-/
import Derived.Test.YtbkgibgomohdjaaDoorKrH
namespace Go.Proofs.YtbkgibgomohdjaaDoor
open Go.Eng Go.RowKit Go.Sort
variable {K : Kn} {Hs Rs : List Hl} {F : Hl} {w : World} {v : Value} {L : List RO}
theorem chA_lim {a : Vec 16} {c : List KY} (hL : LOk L) (h : ChA L a c) : ∀ k ∈ c, k.lim = -1 ∨ 0 ≤ k.lim := by
  rcases h with ⟨_, rfl⟩ | ⟨q, _, hc⟩
  · simp
  · intro k hk
    rcases hc.lim k hk with ⟨h1, _⟩ | ⟨e, he, _, _, _, hl, _⟩
    · exact .inl h1
    · exact .inr (by rw [← hl]; exact (hL.good e he).leaf)
theorem judge_in {c : List KY} {a : Vec 16} {n : Int} {q : PK} {leaf : Int} {id : Vec 32} {m : Nat} {y : KY} (hn : n = m) (hy : c[m]? = some y) : judge c a n q leaf id = if y.pu ≠ q then 2 else if y.lim ≠ -1 ∧ (y.lim < leaf ∨ (leaf = y.lim ∧ id ≠ y.nx)) then 3 else 0 := by
  subst hn
  have := (List.getElem?_eq_some_iff.1 hy).1
  unfold judge
  rw [if_pos (by omega), Int.toNat_natCast, hy]
theorem judge_out {c : List KY} {a : Vec 16} {n : Int} {q : PK} {leaf : Int} {id : Vec 32} (h : ¬ (0 ≤ n ∧ n < c.length)) : judge c a n q leaf id = if n ≠ 0 then 1 else if fine q = true ∧ ofP q = a then 0 else 2 := by
  unfold judge; rw [if_neg h]
theorem rjudge_any (hok : LOk L) (a : Vec 16) (n : Int) (q : PK) (leaf : Int) (id : Vec 32) (hs : Sat K w Hs) [hr : KRow encO 84 K v L] (hL : L.length ≤ 100000) : Ret Tryd.prog 17 #[v, idV a.1, .int .i64 n, .agg (encP q).toArray, .int .i64 leaf, idV id.1] w fun r w' => ∃ c, r = .int .i64 (judge c a n q leaf id) ∧ ChA L a c ∧ Sat K w' Hs := by
  have o1 : OneC v := ⟨KRow.oneC' hr⟩
  have e1 := encV_len a
  have e2 := encV_len id
  refine Ret.enter (n := 75) (args := [v, idV a.1, .int .i64 n, .agg (encP q).toArray, .int .i64 leaf, idV id.1]) Tryd.func17 rfl rfl ?_
  refine C.keep [(0, _), (1, _), (2, _), (3, _), (4, _), (5, _)] ⟨rfl, rfl, rfl, rfl, rfl, rfl, trivial⟩ ?_
  refine C.seq ?_
  refine C.region ?_
  refine R.sboxA hs rfl rfl ?_
  intro b7 w7 hs
  refine R.sboxA hs rfl rfl ?_
  intro b9 w9 hs
  refine R.sboxA hs rfl rfl ?_
  intro b11 w11 hs
  refine R.ev rfl (E.assign rfl) ?_
  refine R.done ?_
  refine X.keep [(0, _), (2, _), (4, _), (7, _), (9, _), (11, _)] ⟨rfl, rfl, rfl, rfl, rfl, rfl, trivial⟩ ?_
  refine X.next ?_
  refine C.seq ?_
  refine C.region ?_
  refine R.ev rfl (E.move rfl) ?_
  refine R.ev rfl (E.loadRowC rfl Tryd.underlying29 rfl Tryd.sz29 (by exact ⟨hs.ldA, by assumption⟩)) ?_
  refine R.call ⟨_, _, Tryd.func18, rfl, by kernel_rfl⟩ rfl rfl (rchain_any a hs hL) ?_
  rintro v13 w13 ⟨c, F13, r13, hc, hs⟩
  obtain ⟨ad13, cap13, rfl, _⟩ := r13.val
  refine R.ev rfl (E.assign rfl) ?_
  refine R.done ?_
  refine X.keep [(2, _), (4, _), (7, _), (9, _), (11, _), (13, _)] ⟨rfl, rfl, rfl, rfl, rfl, rfl, trivial⟩ ?_
  refine X.next ?_
  refine C.seq ?_
  refine C.seq ?_
  refine C.region ?_
  refine R.ev rfl (E.move rfl) ?_
  refine R.ev rfl (E.geq rfl rfl) ?_
  refine R.ev rfl (E.move rfl) ?_
  refine R.split 19 rfl (fun h19 => ?_) (fun h19 => ?_)
  refine R.gyes rfl rfl ?_
  refine R.ev rfl (E.move rfl) ?_
  refine R.gyes rfl rfl ?_
  refine R.ev rfl (E.move rfl) ?_
  refine R.gyes rfl rfl ?_
  refine R.ev rfl (E.lenSl rfl Tryd.underlying42) ?_
  refine R.gyes rfl rfl ?_
  refine R.ev rfl (E.lss rfl rfl) ?_
  refine R.ev rfl (E.pickT rfl rfl) ?_
  refine R.done ?_
  refine X.keep [(2, _), (4, _), (7, _), (9, _), (11, _), (13, _), (24, _)] ⟨rfl, rfl, rfl, rfl, rfl, rfl, rfl, trivial⟩ ?_
  refine X.next ?_
  refine C.cdec rfl (fun h24 => ?_) (fun h24 => ?_)
  refine C.seq ?_
  refine C.seq ?_
  refine C.drawn (SatS hs) ([4, 5], [0, 1, 2, 3, 6]) (by kernel_rfl) ?_
  have hs := hs.drew
  have h19 := of_decide_eq_true h19
  obtain ⟨m, hm⟩ : ∃ m : Nat, n = m := ⟨n.toNat, by omega⟩
  obtain ⟨y, bk_y, of_y, hy, my, ly, rfl, Ay⟩ := hs.el (i := m) (ad := ad13) (n := c.length) (c := cap13) (by omega)
  have hmc := (List.getElem?_eq_some_iff.1 hy).1
  have hJ := judge_in (c := c) (a := a) (q := q) (leaf := leaf) (id := id) hm hy
  have hyl := chA_lim hok hc y my
  refine D.evP 0 rfl (by kernel_rfl) rfl (fun _ => hs.to) (fun _ => E.move rfl) ?_
  refine D.evP 1 rfl (by kernel_rfl) rfl (fun _ => hs.to) (fun _ => E.move rfl) ?_
  refine D.evP 2 rfl (by kernel_rfl) rfl (fun _ => hs.to) (fun _ => E.indexAddr (i := m) rfl rfl Tryd.underlying42 Tryd.sz49 hm hmc) ?_
  refine D.evP 3 rfl (by kernel_rfl) rfl (fun _ => hs.to) (fun _ => E.fieldAddrN 1 rfl Tryd.underlying49 rfl Tryd.sz32 rfl) ?_
  refine D.ev 4 rfl (by kernel_rfl) rfl hs.to (fun _ hS => E.loadRowC rfl Tryd.underlying32 rfl Tryd.sz32 (by exact At.partC ((by assumption : ∀ w', Sat _ w' _ → At w' _ _ _) _ hS))) ?_
  refine D.ev 5 rfl (by kernel_rfl) rfl hs.to (fun _ hS => E.loadRowC rfl Tryd.underlying32 rfl Tryd.sz32 (by exact ⟨hS.ldA, by exact Enc.len _⟩)) ?_
  refine D.evP 6 rfl (by kernel_rfl) rfl (fun _ => hs.to) (fun _ => (E.neqAgg 10 rfl rfl Tryd.lv32 rfl Tryd.underlying32 rfl Tryd.gd32 (encP_fits y.pu) (encP_fits q)).isB (c := decide (y.pu ≠ q)) (by rw [encP_eq]; simp)) ?_
  refine D.done rfl (by kernel_rfl) ?_
  refine X.keep [(2, _), (4, _), (11, _), (13, _), (31, _)] ⟨rfl, rfl, rfl, rfl, rfl, trivial⟩ ?_
  refine X.next ?_
  refine C.cbool rfl (fun h31 => ?_) (fun h31 => ?_)
  refine C.seq ?_
  refine C.region ?_
  refine R.ev rfl (E.assign rfl) ?_
  refine R.done ?_
  refine X.keep [(12, _)] ⟨rfl, trivial⟩ ?_
  refine X.next ?_
  refine C.ret ?_
  refine X.thenRet ?_
  refine X.thenRet ?_
  refine X.ret1 rfl rfl ?_
  exact ⟨c, by rw [hJ, if_pos (of_decide_eq_true h31)], hc, hs.to⟩
  refine C.skip ?_
  refine X.next ?_
  refine C.seq ?_
  refine C.seq ?_
  refine C.drawn (SatS hs) ([4, 12, 20, 23, 28], [0, 1, 2, 3, 5, 6, 7, 8, 9, 10, 11, 13, 14, 15, 16, 17, 18, 19, 21, 22, 24, 25, 26, 27, 29, 30, 31, 32]) (by kernel_rfl) ?_
  have hs := hs.drew
  refine D.evP 0 rfl (by kernel_rfl) rfl (fun _ => hs.to) (fun _ => E.move rfl) ?_
  refine D.evP 1 rfl (by kernel_rfl) rfl (fun _ => hs.to) (fun _ => E.move rfl) ?_
  refine D.evP 2 rfl (by kernel_rfl) rfl (fun _ => hs.to) (fun _ => E.indexAddr (i := m) rfl rfl Tryd.underlying42 Tryd.sz49 hm hmc) ?_
  refine D.evP 3 rfl (by kernel_rfl) rfl (fun _ => hs.to) (fun _ => E.fieldAddrN 18 rfl Tryd.underlying49 rfl Tryd.sz3 rfl) ?_
  refine D.ev 4 rfl (by kernel_rfl) rfl hs.to (fun _ hS => E.load1 rfl Tryd.underlying3 rfl (by exact At.cellC ((by assumption : ∀ w', Sat _ w' _ → At w' _ _ _) _ hS))) ?_
  refine D.evP 5 rfl (by kernel_rfl) rfl (fun _ => hs.to) (fun _ => E.geq rfl rfl) ?_
  refine D.evP 6 rfl (by kernel_rfl) rfl (fun _ => hs.to) (fun _ => E.move rfl) ?_
  refine D.split 38 rfl (fun h38 => ?_) (fun h38 => ?_)
  refine D.evPG 7 rfl (by kernel_rfl) rfl rfl rfl (fun _ => hs.to) (fun _ => E.move rfl) ?_
  refine D.evPG 8 rfl (by kernel_rfl) rfl rfl rfl (fun _ => hs.to) (fun _ => E.move rfl) ?_
  refine D.evPG 9 rfl (by kernel_rfl) rfl rfl rfl (fun _ => hs.to) (fun _ => E.move rfl) ?_
  refine D.evPG 10 rfl (by kernel_rfl) rfl rfl rfl (fun _ => hs.to) (fun _ => E.indexAddr (i := m) rfl rfl Tryd.underlying42 Tryd.sz49 hm hmc) ?_
  refine D.evPG 11 rfl (by kernel_rfl) rfl rfl rfl (fun _ => hs.to) (fun _ => E.fieldAddrN 18 rfl Tryd.underlying49 rfl Tryd.sz3 rfl) ?_
  refine D.evG 12 rfl (by kernel_rfl) rfl rfl rfl hs.to (fun _ hS => E.load1 rfl Tryd.underlying3 rfl (by exact At.cellC ((by assumption : ∀ w', Sat _ w' _ → At w' _ _ _) _ hS))) ?_
  refine D.evPG 13 rfl (by kernel_rfl) rfl rfl rfl (fun _ => hs.to) (fun _ => E.gtr rfl rfl) ?_
  refine D.evPG 14 rfl (by kernel_rfl) rfl rfl rfl (fun _ => hs.to) (fun _ => E.move rfl) ?_
  refine D.split 46 rfl (fun h46 => ?_) (fun h46 => ?_)
  refine D.skipP 15 rfl (by kernel_rfl) rfl rfl rfl (fun _ => hs.to) ?_
  refine D.skipP 16 rfl (by kernel_rfl) rfl rfl rfl (fun _ => hs.to) ?_
  refine D.skipP 17 rfl (by kernel_rfl) rfl rfl rfl (fun _ => hs.to) ?_
  refine D.skipP 18 rfl (by kernel_rfl) rfl rfl rfl (fun _ => hs.to) ?_
  refine D.skipP 19 rfl (by kernel_rfl) rfl rfl rfl (fun _ => hs.to) ?_
  refine D.skip 20 rfl (by kernel_rfl) rfl rfl rfl hs.to ?_
  refine D.skipP 21 rfl (by kernel_rfl) rfl rfl rfl (fun _ => hs.to) ?_
  refine D.skipP 22 rfl (by kernel_rfl) rfl rfl rfl (fun _ => hs.to) ?_
  refine D.undefP 24 rfl (by kernel_rfl) rfl rfl (fun _ => hs.to) ?_
  refine D.undefP 25 rfl (by kernel_rfl) rfl rfl (fun _ => hs.to) ?_
  refine D.undefP 26 rfl (by kernel_rfl) rfl rfl (fun _ => hs.to) ?_
  refine D.undefP 27 rfl (by kernel_rfl) rfl rfl (fun _ => hs.to) ?_
  refine D.undef 23 rfl (by kernel_rfl) rfl rfl hs.to ?_
  refine D.undef 28 rfl (by kernel_rfl) rfl rfl hs.to ?_
  refine D.undefP 29 rfl (by kernel_rfl) rfl rfl (fun _ => hs.to) ?_
  refine D.skipP 30 rfl (by kernel_rfl) rfl rfl rfl (fun _ => hs.to) ?_
  refine D.evPG 31 rfl (by kernel_rfl) rfl rfl rfl (fun _ => hs.to) (fun _ => E.pickT rfl rfl) ?_
  refine D.evP 32 rfl (by kernel_rfl) rfl (fun _ => hs.to) (fun _ => E.pickT rfl rfl) ?_
  refine D.done rfl (by kernel_rfl) ?_
  refine X.keep [(64, _)] ⟨rfl, trivial⟩ ?_
  refine X.next ?_
  refine C.ctrue rfl ?_
  refine C.seq ?_
  refine C.region ?_
  refine R.ev rfl (E.assign rfl) ?_
  refine R.done ?_
  refine X.keep [(12, _)] ⟨rfl, trivial⟩ ?_
  refine X.next ?_
  refine C.ret ?_
  refine X.thenRet ?_
  refine X.thenRet ?_
  refine X.ret1 rfl rfl ?_
  have hl : y.lim < leaf ∨ (leaf = y.lim ∧ id ≠ y.nx) := by
    first
      | exact .inl (of_decide_eq_true h46)
      | exact .inr ⟨of_decide_eq_true h54, of_decide_eq_true h64⟩
  have h38 := of_decide_eq_true h38
  exact ⟨c, by rw [hJ, if_neg (of_decide_eq_false h31), if_pos ⟨by omega, hl⟩], hc, hs.to⟩
  refine D.evPG 15 rfl (by kernel_rfl) rfl rfl rfl (fun _ => hs.to) (fun _ => E.move rfl) ?_
  refine D.evPG 16 rfl (by kernel_rfl) rfl rfl rfl (fun _ => hs.to) (fun _ => E.move rfl) ?_
  refine D.evPG 17 rfl (by kernel_rfl) rfl rfl rfl (fun _ => hs.to) (fun _ => E.move rfl) ?_
  refine D.evPG 18 rfl (by kernel_rfl) rfl rfl rfl (fun _ => hs.to) (fun _ => E.indexAddr (i := m) rfl rfl Tryd.underlying42 Tryd.sz49 hm hmc) ?_
  refine D.evPG 19 rfl (by kernel_rfl) rfl rfl rfl (fun _ => hs.to) (fun _ => E.fieldAddrN 18 rfl Tryd.underlying49 rfl Tryd.sz3 rfl) ?_
  refine D.evG 20 rfl (by kernel_rfl) rfl rfl rfl hs.to (fun _ hS => E.load1 rfl Tryd.underlying3 rfl (by exact At.cellC ((by assumption : ∀ w', Sat _ w' _ → At w' _ _ _) _ hS))) ?_
  refine D.evPG 21 rfl (by kernel_rfl) rfl rfl rfl (fun _ => hs.to) (fun _ => E.eql rfl rfl) ?_
  refine D.evPG 22 rfl (by kernel_rfl) rfl rfl rfl (fun _ => hs.to) (fun _ => E.move rfl) ?_
  refine D.split 54 rfl (fun h54 => ?_) (fun h54 => ?_)
  refine D.evPG 24 rfl (by kernel_rfl) rfl rfl rfl (fun _ => hs.to) (fun _ => E.move rfl) ?_
  refine D.evPG 25 rfl (by kernel_rfl) rfl rfl rfl (fun _ => hs.to) (fun _ => E.move rfl) ?_
  refine D.evPG 26 rfl (by kernel_rfl) rfl rfl rfl (fun _ => hs.to) (fun _ => E.indexAddr (i := m) rfl rfl Tryd.underlying42 Tryd.sz49 hm hmc) ?_
  refine D.evPG 27 rfl (by kernel_rfl) rfl rfl rfl (fun _ => hs.to) (fun _ => E.fieldAddrN 19 rfl Tryd.underlying49 rfl Tryd.sz34 rfl) ?_
  refine D.evG 23 rfl (by kernel_rfl) rfl rfl rfl hs.to (fun _ hS => E.loadRowC rfl Tryd.underlying34 rfl Tryd.sz34 (by exact ⟨hS.ldA, by assumption⟩)) ?_
  refine D.evG 28 rfl (by kernel_rfl) rfl rfl rfl hs.to (fun _ hS => E.loadRowC rfl Tryd.underlying34 rfl Tryd.sz34 (by exact At.partC ((by assumption : ∀ w', Sat _ w' _ → At w' _ _ _) _ hS))) ?_
  refine D.evPG 29 rfl (by kernel_rfl) rfl rfl rfl (fun _ => hs.to) (fun _ => E.neV 10 rfl rfl Tryd.lv34 rfl Tryd.underlying34 rfl Tryd.gd34) ?_
  refine D.evPG 30 rfl (by kernel_rfl) rfl rfl rfl (fun _ => hs.to) (fun _ => E.pickT rfl rfl) ?_
  refine D.evPG 31 rfl (by kernel_rfl) rfl rfl rfl (fun _ => hs.to) (fun _ => E.pickF rfl rfl) ?_
  refine D.evP 32 rfl (by kernel_rfl) rfl (fun _ => hs.to) (fun _ => E.pickT rfl rfl) ?_
  refine D.done rfl (by kernel_rfl) ?_
  refine X.keep [(64, _)] ⟨rfl, trivial⟩ ?_
  refine X.next ?_
  refine C.cbool rfl (fun h64 => ?_) (fun h64 => ?_)
  refine C.seq ?_
  refine C.region ?_
  refine R.ev rfl (E.assign rfl) ?_
  refine R.done ?_
  refine X.keep [(12, _)] ⟨rfl, trivial⟩ ?_
  refine X.next ?_
  refine C.ret ?_
  refine X.thenRet ?_
  refine X.thenRet ?_
  refine X.ret1 rfl rfl ?_
  have hl : y.lim < leaf ∨ (leaf = y.lim ∧ id ≠ y.nx) := by
    first
      | exact .inl (of_decide_eq_true h46)
      | exact .inr ⟨of_decide_eq_true h54, of_decide_eq_true h64⟩
  have h38 := of_decide_eq_true h38
  exact ⟨c, by rw [hJ, if_neg (of_decide_eq_false h31), if_pos ⟨by omega, hl⟩], hc, hs.to⟩
  refine C.skip ?_
  refine X.next ?_
  refine C.seq ?_
  refine C.region ?_
  refine R.ev rfl (E.assign rfl) ?_
  refine R.done ?_
  refine X.keep [(12, _)] ⟨rfl, trivial⟩ ?_
  refine X.next ?_
  refine C.ret ?_
  refine X.thenRet ?_
  refine X.ret1 rfl rfl ?_
  have hl : ¬ (y.lim ≠ -1 ∧ (y.lim < leaf ∨ (leaf = y.lim ∧ id ≠ y.nx))) := by
    first
      | (have h38 := of_decide_eq_false h38; exact fun g => g.1 (hyl.resolve_right h38))
      | exact fun g => (g.2.elim (of_decide_eq_false h46) fun k => of_decide_eq_false h64 k.2)
      | exact fun g => (g.2.elim (of_decide_eq_false h46) fun k => of_decide_eq_false h54 k.1)
  exact ⟨c, by rw [hJ, if_neg (of_decide_eq_false h31), if_neg hl], hc, hs.to⟩
  refine D.skipP 24 rfl (by kernel_rfl) rfl rfl rfl (fun _ => hs.to) ?_
  refine D.skipP 25 rfl (by kernel_rfl) rfl rfl rfl (fun _ => hs.to) ?_
  refine D.skipP 26 rfl (by kernel_rfl) rfl rfl rfl (fun _ => hs.to) ?_
  refine D.skipP 27 rfl (by kernel_rfl) rfl rfl rfl (fun _ => hs.to) ?_
  refine D.skip 23 rfl (by kernel_rfl) rfl rfl rfl hs.to ?_
  refine D.skip 28 rfl (by kernel_rfl) rfl rfl rfl hs.to ?_
  refine D.skipP 29 rfl (by kernel_rfl) rfl rfl rfl (fun _ => hs.to) ?_
  refine D.evPG 30 rfl (by kernel_rfl) rfl rfl rfl (fun _ => hs.to) (fun _ => E.pickF rfl rfl) ?_
  refine D.evPG 31 rfl (by kernel_rfl) rfl rfl rfl (fun _ => hs.to) (fun _ => E.pickF rfl rfl) ?_
  refine D.evP 32 rfl (by kernel_rfl) rfl (fun _ => hs.to) (fun _ => E.pickT rfl rfl) ?_
  refine D.done rfl (by kernel_rfl) ?_
  refine X.keep [(64, _)] ⟨rfl, trivial⟩ ?_
  refine X.next ?_
  refine C.cfalse rfl ?_
  refine C.skip ?_
  refine X.next ?_
  refine C.seq ?_
  refine C.region ?_
  refine R.ev rfl (E.assign rfl) ?_
  refine R.done ?_
  refine X.keep [(12, _)] ⟨rfl, trivial⟩ ?_
  refine X.next ?_
  refine C.ret ?_
  refine X.thenRet ?_
  refine X.ret1 rfl rfl ?_
  have hl : ¬ (y.lim ≠ -1 ∧ (y.lim < leaf ∨ (leaf = y.lim ∧ id ≠ y.nx))) := by
    first
      | (have h38 := of_decide_eq_false h38; exact fun g => g.1 (hyl.resolve_right h38))
      | exact fun g => (g.2.elim (of_decide_eq_false h46) fun k => of_decide_eq_false h64 k.2)
      | exact fun g => (g.2.elim (of_decide_eq_false h46) fun k => of_decide_eq_false h54 k.1)
  exact ⟨c, by rw [hJ, if_neg (of_decide_eq_false h31), if_neg hl], hc, hs.to⟩
  refine D.skipP 7 rfl (by kernel_rfl) rfl rfl rfl (fun _ => hs.to) ?_
  refine D.skipP 8 rfl (by kernel_rfl) rfl rfl rfl (fun _ => hs.to) ?_
  refine D.skipP 9 rfl (by kernel_rfl) rfl rfl rfl (fun _ => hs.to) ?_
  refine D.skipP 10 rfl (by kernel_rfl) rfl rfl rfl (fun _ => hs.to) ?_
  refine D.skipP 11 rfl (by kernel_rfl) rfl rfl rfl (fun _ => hs.to) ?_
  refine D.skip 12 rfl (by kernel_rfl) rfl rfl rfl hs.to ?_
  refine D.skipP 13 rfl (by kernel_rfl) rfl rfl rfl (fun _ => hs.to) ?_
  refine D.skipP 14 rfl (by kernel_rfl) rfl rfl rfl (fun _ => hs.to) ?_
  refine D.undefP 15 rfl (by kernel_rfl) rfl rfl (fun _ => hs.to) ?_
  refine D.undefP 16 rfl (by kernel_rfl) rfl rfl (fun _ => hs.to) ?_
  refine D.undefP 17 rfl (by kernel_rfl) rfl rfl (fun _ => hs.to) ?_
  refine D.undefP 18 rfl (by kernel_rfl) rfl rfl (fun _ => hs.to) ?_
  refine D.undefP 19 rfl (by kernel_rfl) rfl rfl (fun _ => hs.to) ?_
  refine D.undef 20 rfl (by kernel_rfl) rfl rfl hs.to ?_
  refine D.undefP 21 rfl (by kernel_rfl) rfl rfl (fun _ => hs.to) ?_
  refine D.undefP 22 rfl (by kernel_rfl) rfl rfl (fun _ => hs.to) ?_
  refine D.undefP 24 rfl (by kernel_rfl) rfl rfl (fun _ => hs.to) ?_
  refine D.undefP 25 rfl (by kernel_rfl) rfl rfl (fun _ => hs.to) ?_
  refine D.undefP 26 rfl (by kernel_rfl) rfl rfl (fun _ => hs.to) ?_
  refine D.undefP 27 rfl (by kernel_rfl) rfl rfl (fun _ => hs.to) ?_
  refine D.undef 23 rfl (by kernel_rfl) rfl rfl hs.to ?_
  refine D.undef 28 rfl (by kernel_rfl) rfl rfl hs.to ?_
  refine D.undefP 29 rfl (by kernel_rfl) rfl rfl (fun _ => hs.to) ?_
  refine D.undefP 30 rfl (by kernel_rfl) rfl rfl (fun _ => hs.to) ?_
  refine D.skipP 31 rfl (by kernel_rfl) rfl rfl rfl (fun _ => hs.to) ?_
  refine D.evP 32 rfl (by kernel_rfl) rfl (fun _ => hs.to) (fun _ => E.pickF rfl rfl) ?_
  refine D.done rfl (by kernel_rfl) ?_
  refine X.keep [(64, _)] ⟨rfl, trivial⟩ ?_
  refine X.next ?_
  refine C.cfalse rfl ?_
  refine C.skip ?_
  refine X.next ?_
  refine C.seq ?_
  refine C.region ?_
  refine R.ev rfl (E.assign rfl) ?_
  refine R.done ?_
  refine X.keep [(12, _)] ⟨rfl, trivial⟩ ?_
  refine X.next ?_
  refine C.ret ?_
  refine X.thenRet ?_
  refine X.ret1 rfl rfl ?_
  have hl : ¬ (y.lim ≠ -1 ∧ (y.lim < leaf ∨ (leaf = y.lim ∧ id ≠ y.nx))) := by
    first
      | (have h38 := of_decide_eq_false h38; exact fun g => g.1 (hyl.resolve_right h38))
      | exact fun g => (g.2.elim (of_decide_eq_false h46) fun k => of_decide_eq_false h64 k.2)
      | exact fun g => (g.2.elim (of_decide_eq_false h46) fun k => of_decide_eq_false h54 k.1)
  exact ⟨c, by rw [hJ, if_neg (of_decide_eq_false h31), if_neg hl], hc, hs.to⟩
  refine C.skip ?_
  refine X.next ?_
  refine C.seq ?_
  refine C.seq ?_
  refine C.region ?_
  have hout : ¬ (0 ≤ n ∧ n < c.length) := by
    first
      | (have h19 := of_decide_eq_false h19; omega)
      | omega
  have hJ := judge_out (a := a) (q := q) (leaf := leaf) (id := id) hout
  refine R.ev rfl (E.move rfl) ?_
  refine R.ev rfl (E.neq rfl rfl) ?_
  refine R.done ?_
  refine X.keep [(7, _), (9, _), (66, _)] ⟨rfl, rfl, rfl, trivial⟩ ?_
  refine X.next ?_
  refine C.cdec rfl (fun h66 => ?_) (fun h66 => ?_)
  refine C.seq ?_
  refine C.region ?_
  refine R.ev rfl (E.assign rfl) ?_
  refine R.done ?_
  refine X.keep [(12, _)] ⟨rfl, trivial⟩ ?_
  refine X.next ?_
  refine C.ret ?_
  refine X.thenRet ?_
  refine X.ret1 rfl rfl ?_
  exact ⟨c, by rw [hJ, if_pos h66], hc, hs.to⟩
  refine C.skip ?_
  refine X.next ?_
  refine C.seq ?_
  refine C.seq ?_
  refine C.drawn (SatS hs) ([0, 3, 5], [2, 6, 7]) (by kernel_rfl) ?_
  have hs := hs.drew
  refine D.ev 0 rfl (by kernel_rfl) rfl hs.to (fun _ hS => E.loadRowC rfl Tryd.underlying32 rfl Tryd.sz32 (by exact ⟨hS.ldA, by exact Enc.len _⟩)) ?_
  refine D.act 1 rfl (by kernel_rfl) ?_
  refine R.call ⟨_, _, Tryd.func38, rfl, by kernel_rfl⟩ rfl rfl (rfine_any q hs) ?_
  rintro _ w101 ⟨rfl, hs⟩
  refine D.back hs.to ?_
  refine D.evP 2 rfl (by kernel_rfl) rfl (fun _ => hs.to) (fun _ => E.move rfl) ?_
  refine D.split 69 rfl (fun h69 => ?_) (fun h69 => ?_)
  refine D.evG 3 rfl (by kernel_rfl) rfl rfl rfl hs.to (fun _ hS => E.loadRowC rfl Tryd.underlying32 rfl Tryd.sz32 (by exact ⟨hS.ldA, by exact Enc.len _⟩)) ?_
  refine D.evG 5 rfl (by kernel_rfl) rfl rfl rfl hs.to (fun _ hS => E.loadRowC rfl Tryd.underlying29 rfl Tryd.sz29 (by exact ⟨hS.ldA, by assumption⟩)) ?_
  refine D.act 4 rfl (by kernel_rfl) ?_
  refine R.gyes rfl rfl ?_
  refine R.call ⟨_, _, Tryd.func13, rfl, by kernel_rfl⟩ rfl rfl (rOf_any q hs) ?_
  rintro _ w104 ⟨rfl, hs⟩
  refine D.back hs.to ?_
  refine D.evPG 6 rfl (by kernel_rfl) rfl rfl rfl (fun _ => hs.to) (fun _ => (E.eqV 10 (a := ofP q) (b := a) rfl rfl Tryd.lv29 rfl Tryd.underlying29 rfl Tryd.gd29)) ?_
  refine D.evP 7 rfl (by kernel_rfl) rfl (fun _ => hs.to) (fun _ => E.pickT rfl rfl) ?_
  refine D.done rfl (by kernel_rfl) ?_
  refine X.keep [(74, _)] ⟨rfl, trivial⟩ ?_
  refine X.next ?_
  refine C.cbool rfl (fun h74 => ?_) (fun h74 => ?_)
  refine C.seq ?_
  refine C.region ?_
  refine R.ev rfl (E.assign rfl) ?_
  refine R.done ?_
  refine X.keep [(12, _)] ⟨rfl, trivial⟩ ?_
  refine X.next ?_
  refine C.ret ?_
  refine X.thenRet ?_
  refine X.ret1 rfl rfl ?_
  exact ⟨c, by rw [hJ, if_neg h66, if_pos ⟨h69, of_decide_eq_true h74⟩], hc, hs.to⟩
  refine C.skip ?_
  refine X.next ?_
  refine C.seq ?_
  refine C.region ?_
  refine R.ev rfl (E.assign rfl) ?_
  refine R.done ?_
  refine X.keep [(12, _)] ⟨rfl, trivial⟩ ?_
  refine X.next ?_
  refine C.ret ?_
  refine X.ret1 rfl rfl ?_
  have hl : ¬ (fine q = true ∧ ofP q = a) := by
    first
      | exact fun g => absurd (h69.symm.trans g.1) (by decide)
      | exact fun g => of_decide_eq_false h74 g.2
  exact ⟨c, by rw [hJ, if_neg h66, if_neg hl], hc, hs.to⟩
  refine D.skip 3 rfl (by kernel_rfl) rfl rfl rfl hs.to ?_
  refine D.skip 5 rfl (by kernel_rfl) rfl rfl rfl hs.to ?_
  refine D.act 4 rfl (by kernel_rfl) ?_
  refine R.gskip rfl rfl rfl ?_
  refine D.back hs.to ?_
  refine D.skipP 6 rfl (by kernel_rfl) rfl rfl rfl (fun _ => hs.to) ?_
  refine D.evP 7 rfl (by kernel_rfl) rfl (fun _ => hs.to) (fun _ => E.pickF rfl rfl) ?_
  refine D.done rfl (by kernel_rfl) ?_
  refine X.keep [(74, _)] ⟨rfl, trivial⟩ ?_
  refine X.next ?_
  refine C.cfalse rfl ?_
  refine C.skip ?_
  refine X.next ?_
  refine C.seq ?_
  refine C.region ?_
  refine R.ev rfl (E.assign rfl) ?_
  refine R.done ?_
  refine X.keep [(12, _)] ⟨rfl, trivial⟩ ?_
  refine X.next ?_
  refine C.ret ?_
  refine X.ret1 rfl rfl ?_
  have hl : ¬ (fine q = true ∧ ofP q = a) := by
    first
      | exact fun g => absurd (h69.symm.trans g.1) (by decide)
      | exact fun g => of_decide_eq_false h74 g.2
  exact ⟨c, by rw [hJ, if_neg h66, if_neg hl], hc, hs.to⟩
  refine R.gskip rfl rfl rfl ?_
  refine R.gskip rfl rfl rfl ?_
  refine R.gskip rfl rfl rfl ?_
  refine R.gskip rfl rfl rfl ?_
  refine R.ev rfl (E.pickF rfl rfl) ?_
  refine R.done ?_
  refine X.keep [(2, _), (4, _), (7, _), (9, _), (11, _), (13, _), (24, _)] ⟨rfl, rfl, rfl, rfl, rfl, rfl, rfl, trivial⟩ ?_
  refine X.next ?_
  refine C.cfalse rfl ?_
  refine C.skip ?_
  refine X.next ?_
  refine C.seq ?_
  refine C.seq ?_
  refine C.region ?_
  have hout : ¬ (0 ≤ n ∧ n < c.length) := by
    first
      | (have h19 := of_decide_eq_false h19; omega)
      | omega
  have hJ := judge_out (a := a) (q := q) (leaf := leaf) (id := id) hout
  refine R.ev rfl (E.move rfl) ?_
  refine R.ev rfl (E.neq rfl rfl) ?_
  refine R.done ?_
  refine X.keep [(7, _), (9, _), (66, _)] ⟨rfl, rfl, rfl, trivial⟩ ?_
  refine X.next ?_
  refine C.cdec rfl (fun h66 => ?_) (fun h66 => ?_)
  refine C.seq ?_
  refine C.region ?_
  refine R.ev rfl (E.assign rfl) ?_
  refine R.done ?_
  refine X.keep [(12, _)] ⟨rfl, trivial⟩ ?_
  refine X.next ?_
  refine C.ret ?_
  refine X.thenRet ?_
  refine X.ret1 rfl rfl ?_
  exact ⟨c, by rw [hJ, if_pos h66], hc, hs.to⟩
  refine C.skip ?_
  refine X.next ?_
  refine C.seq ?_
  refine C.seq ?_
  refine C.drawn (SatS hs) ([0, 3, 5], [2, 6, 7]) (by kernel_rfl) ?_
  have hs := hs.drew
  refine D.ev 0 rfl (by kernel_rfl) rfl hs.to (fun _ hS => E.loadRowC rfl Tryd.underlying32 rfl Tryd.sz32 (by exact ⟨hS.ldA, by exact Enc.len _⟩)) ?_
  refine D.act 1 rfl (by kernel_rfl) ?_
  refine R.call ⟨_, _, Tryd.func38, rfl, by kernel_rfl⟩ rfl rfl (rfine_any q hs) ?_
  rintro _ w101 ⟨rfl, hs⟩
  refine D.back hs.to ?_
  refine D.evP 2 rfl (by kernel_rfl) rfl (fun _ => hs.to) (fun _ => E.move rfl) ?_
  refine D.split 69 rfl (fun h69 => ?_) (fun h69 => ?_)
  refine D.evG 3 rfl (by kernel_rfl) rfl rfl rfl hs.to (fun _ hS => E.loadRowC rfl Tryd.underlying32 rfl Tryd.sz32 (by exact ⟨hS.ldA, by exact Enc.len _⟩)) ?_
  refine D.evG 5 rfl (by kernel_rfl) rfl rfl rfl hs.to (fun _ hS => E.loadRowC rfl Tryd.underlying29 rfl Tryd.sz29 (by exact ⟨hS.ldA, by assumption⟩)) ?_
  refine D.act 4 rfl (by kernel_rfl) ?_
  refine R.gyes rfl rfl ?_
  refine R.call ⟨_, _, Tryd.func13, rfl, by kernel_rfl⟩ rfl rfl (rOf_any q hs) ?_
  rintro _ w104 ⟨rfl, hs⟩
  refine D.back hs.to ?_
  refine D.evPG 6 rfl (by kernel_rfl) rfl rfl rfl (fun _ => hs.to) (fun _ => (E.eqV 10 (a := ofP q) (b := a) rfl rfl Tryd.lv29 rfl Tryd.underlying29 rfl Tryd.gd29)) ?_
  refine D.evP 7 rfl (by kernel_rfl) rfl (fun _ => hs.to) (fun _ => E.pickT rfl rfl) ?_
  refine D.done rfl (by kernel_rfl) ?_
  refine X.keep [(74, _)] ⟨rfl, trivial⟩ ?_
  refine X.next ?_
  refine C.cbool rfl (fun h74 => ?_) (fun h74 => ?_)
  refine C.seq ?_
  refine C.region ?_
  refine R.ev rfl (E.assign rfl) ?_
  refine R.done ?_
  refine X.keep [(12, _)] ⟨rfl, trivial⟩ ?_
  refine X.next ?_
  refine C.ret ?_
  refine X.thenRet ?_
  refine X.ret1 rfl rfl ?_
  exact ⟨c, by rw [hJ, if_neg h66, if_pos ⟨h69, of_decide_eq_true h74⟩], hc, hs.to⟩
  refine C.skip ?_
  refine X.next ?_
  refine C.seq ?_
  refine C.region ?_
  refine R.ev rfl (E.assign rfl) ?_
  refine R.done ?_
  refine X.keep [(12, _)] ⟨rfl, trivial⟩ ?_
  refine X.next ?_
  refine C.ret ?_
  refine X.ret1 rfl rfl ?_
  have hl : ¬ (fine q = true ∧ ofP q = a) := by
    first
      | exact fun g => absurd (h69.symm.trans g.1) (by decide)
      | exact fun g => of_decide_eq_false h74 g.2
  exact ⟨c, by rw [hJ, if_neg h66, if_neg hl], hc, hs.to⟩
  refine D.skip 3 rfl (by kernel_rfl) rfl rfl rfl hs.to ?_
  refine D.skip 5 rfl (by kernel_rfl) rfl rfl rfl hs.to ?_
  refine D.act 4 rfl (by kernel_rfl) ?_
  refine R.gskip rfl rfl rfl ?_
  refine D.back hs.to ?_
  refine D.skipP 6 rfl (by kernel_rfl) rfl rfl rfl (fun _ => hs.to) ?_
  refine D.evP 7 rfl (by kernel_rfl) rfl (fun _ => hs.to) (fun _ => E.pickF rfl rfl) ?_
  refine D.done rfl (by kernel_rfl) ?_
  refine X.keep [(74, _)] ⟨rfl, trivial⟩ ?_
  refine X.next ?_
  refine C.cfalse rfl ?_
  refine C.skip ?_
  refine X.next ?_
  refine C.seq ?_
  refine C.region ?_
  refine R.ev rfl (E.assign rfl) ?_
  refine R.done ?_
  refine X.keep [(12, _)] ⟨rfl, trivial⟩ ?_
  refine X.next ?_
  refine C.ret ?_
  refine X.ret1 rfl rfl ?_
  have hl : ¬ (fine q = true ∧ ofP q = a) := by
    first
      | exact fun g => absurd (h69.symm.trans g.1) (by decide)
      | exact fun g => of_decide_eq_false h74 g.2
  exact ⟨c, by rw [hJ, if_neg h66, if_neg hl], hc, hs.to⟩
end Go.Proofs.YtbkgibgomohdjaaDoor
