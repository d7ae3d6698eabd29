/-
  slices.SortFunc over entries: the pivot, the partial insertion sort.
-/
import Derived.Test.YtifghjeapfijkaaGreatDoorHSortI
import Derived.Test.YtifghjeapfijkaaGreatDoorBits
namespace Go.Proofs.YtifghjeapfijkaaGreatDoor.Hist
open Go.Eng Go.RowKit

section
variable {K : Kn} {Rs : List Hl} {F : Hl} {w : World} {b m c0 : Nat} {d : Array HEnt} {lt : HEnt → HEnt → Bool} {fid : FuncId} {fst cps : List Value}
open Go.Sort
theorem hepins_any (hf : heCmp K Rs fid fst cps lt) (a b0 : Nat) (hs : Sat K w (F :: Rs)) (hr : heA b m c0 d F) (hab : a < b0) (hb : b0 ≤ m) (hm : m ≤ 1000000000) :
    Ret Tryz.prog 92 #[.slice (some ⟨b, 0, none⟩) m c0, .int .i64 (a : Nat), .int .i64 (b0 : Nat), .func (.func fid) fst.toArray cps.toArray] w fun r w' => r = .bool (partialInsertionSort lt d a b0).2 ∧ ∃ F', heA b m c0 (partialInsertionSort lt d a b0).1 F' ∧ Sat K w' (F' :: Rs) := by
  refine Ret.enter (n := 141) (args := [.slice (some ⟨b, 0, none⟩) m c0, .int .i64 (a : Nat), .int .i64 (b0 : Nat), .func (.func fid) fst.toArray cps.toArray]) Tryz.func92 rfl rfl ?_
  refine C.keep [(0, _), (1, _), (2, _), (3, _)] ⟨rfl, rfl, rfl, rfl, trivial⟩ ?_
  refine C.seq ?_
  refine C.region ?_
  refine R.ev rfl (E.assign rfl) ?_
  refine R.done ?_
  refine X.keep [(0, _), (1, _), (2, _), (3, _)] ⟨rfl, rfl, rfl, rfl, trivial⟩ ?_
  refine X.next ?_
  refine C.seq ?_
  refine C.region ?_
  refine R.ev rfl (E.move rfl) ?_
  refine R.ev rfl ((E.add rfl rfl (by omega) (by omega)).isI (c := ((a + 1 : Nat) : Int)) (by omega)) ?_
  refine R.ev rfl (E.assign rfl) ?_
  refine R.done ?_
  refine X.keep [(0, _), (1, _), (2, _), (3, _), (9, _)] ⟨rfl, rfl, rfl, rfl, rfl, trivial⟩ ?_
  refine X.next ?_
  refine C.seq ?_
  refine C.seq ?_
  refine C.region ?_
  refine R.ev rfl ((E.assign rfl).as (u := .int .i64 ((0 : Nat) : Int)) rfl) ?_
  refine R.done ?_
  refine X.keep [(0, _), (1, _), (2, _), (3, _), (9, _), (10, _)] ⟨rfl, rfl, rfl, rfl, rfl, rfl, trivial⟩ ?_
  refine X.next ?_
  refine C.block ?_
  refine C.loop (T := Nat × Nat × Array HEnt × Hl) [(0, _), (1, _), (2, _), (3, _)] (fun (q, i, _, _) => [(9, .int .i64 (i : Nat)), (10, .int .i64 (q : Nat))]) (fun (q, i, d1, F1) w' => partialIns lt a b0 (5 - q) i d1 = partialInsertionSort lt d a b0 ∧ q ≤ 5 ∧ a + 1 ≤ i ∧ i ≤ b0 ∧ heA b m c0 d1 F1 ∧ Sat K w' (F1 :: Rs)) (fun (q, _) => 5 - q) ((0, a + 1, d, F)) ⟨rfl, rfl, rfl, rfl, rfl, rfl, trivial⟩ ⟨rfl, by omega, by omega, by omega, hr, hs⟩ ?_
  rintro ⟨q, i, d1, F1⟩ w1 ⟨he, hq, hai, hib, r1, hs⟩
  refine C.keep [(0, _), (1, _), (2, _), (3, _), (9, _), (10, _)] ⟨rfl, rfl, rfl, rfl, rfl, rfl, trivial⟩ ?_
  refine C.seq ?_
  refine C.seq ?_
  refine C.region ?_
  refine R.ev rfl (E.move rfl) ?_
  refine R.ev rfl (E.lss rfl rfl) ?_
  refine R.done ?_
  refine X.keep [(0, _), (1, _), (2, _), (3, _), (9, _), (10, _), (16, _)] ⟨rfl, rfl, rfl, rfl, rfl, rfl, rfl, trivial⟩ ?_
  refine X.next ?_
  refine C.cdec rfl (fun h16 => ?_) (fun h16 => ?_)
  · rw [show 5 - q = (5 - (q + 1)) + 1 by omega] at he
    refine C.skip ?_
    refine X.next ?_
    refine C.seq ?_
    refine C.block ?_
    refine C.seq ?_
    refine C.block ?_
    refine C.loop  [(0, _), (1, _), (2, _), (3, _), (10, _)] (fun i2 => [(9, .int .i64 (i2 : Nat))]) (fun i2 w' => scanSorted lt d1 b0 i2 = scanSorted lt d1 b0 i ∧ i ≤ i2 ∧ i2 ≤ b0 ∧ Sat K w' (F1 :: Rs)) (fun i2 => b0 - i2) (i) ⟨rfl, rfl, rfl, rfl, rfl, rfl, trivial⟩ ⟨rfl, by omega, by omega, hs⟩ ?_
    rintro i2 w2 ⟨hi2, hii, hi2b, hs⟩
    refine C.keep [(0, _), (1, _), (2, _), (3, _), (9, _), (10, _)] ⟨rfl, rfl, rfl, rfl, rfl, rfl, trivial⟩ ?_
    refine C.seq ?_
    refine C.seq ?_
    refine C.cut [(0, _), (1, _), (2, _), (3, _), (9, _), (10, _)] (fun (_ : Unit) => [(36, .bool (decide (((i2 : Nat) : Int) < ((b0 : Nat) : Int)) && !lt d1[i2]! d1[i2 - 1]!))]) (fun _ w' => Sat K w' (F1 :: Rs)) ⟨rfl, rfl, rfl, rfl, rfl, rfl, trivial⟩ ?_ ?_
    · refine C.drawn (SatS hs) ([8, 13], [0, 1, 2, 3, 4, 5, 6, 7, 9, 10, 11, 12, 15, 16, 17]) (by kernel_rfl) ?_
      have hs := hs.drew
      refine D.evP 0 rfl (by kernel_rfl) rfl (fun _ => hs.to) (fun _ => E.move rfl) ?_
      refine D.evP 1 rfl (by kernel_rfl) rfl (fun _ => hs.to) (fun _ => E.move rfl) ?_
      refine D.evP 2 rfl (by kernel_rfl) rfl (fun _ => hs.to) (fun _ => E.lss rfl rfl) ?_
      refine D.evP 3 rfl (by kernel_rfl) rfl (fun _ => hs.to) (fun _ => E.move rfl) ?_
      refine D.split 22 rfl (fun h22 => ?_) (fun h22 => ?_)
      · have h22' := of_decide_eq_true h22
        have A1 := r1.el (K := K) (Hs := F1 :: Rs) (i := i2) (by omega)
        have A2 := r1.el (K := K) (Hs := F1 :: Rs) (i := i2 - 1) (by omega)
        refine D.evPG 4 rfl (by kernel_rfl) rfl rfl rfl (fun _ => hs.to) (fun _ => E.move rfl) ?_
        refine D.evPG 5 rfl (by kernel_rfl) rfl rfl rfl (fun _ => hs.to) (fun _ => E.move rfl) ?_
        refine D.evPG 6 rfl (by kernel_rfl) rfl rfl rfl (fun _ => hs.to) (fun _ => E.move rfl) ?_
        refine D.evPG 7 rfl (by kernel_rfl) rfl rfl rfl (fun _ => hs.to) (fun _ => E.indexAddr rfl rfl Tryz.underlying88 Tryz.sz50 rfl (by first | omega | decide)) ?_
        refine D.evPG 9 rfl (by kernel_rfl) rfl rfl rfl (fun _ => hs.to) (fun _ => E.move rfl) ?_
        refine D.evPG 10 rfl (by kernel_rfl) rfl rfl rfl (fun _ => hs.to) (fun _ => E.move rfl) ?_
        refine D.evPG 11 rfl (by kernel_rfl) rfl rfl rfl (fun _ => hs.to) (fun _ => (E.sub rfl rfl (by omega) (by omega)).isI (c := ((i2 - 1 : Nat) : Int)) (by omega)) ?_
        refine D.evPG 12 rfl (by kernel_rfl) rfl rfl rfl (fun _ => hs.to) (fun _ => E.indexAddr rfl rfl Tryz.underlying88 Tryz.sz50 rfl (by first | omega | decide)) ?_
        refine D.evG 8 rfl (by kernel_rfl) rfl rfl rfl hs.to (fun _ hS => E.loadRowC rfl Tryz.underlying50 rfl Tryz.sz50 ⟨A1 _ hS, Enc.len _⟩) ?_
        refine D.evG 13 rfl (by kernel_rfl) rfl rfl rfl hs.to (fun _ hS => E.loadRowC rfl Tryz.underlying50 rfl Tryz.sz50 ⟨A2 _ hS, Enc.len _⟩) ?_
        refine D.act 14 rfl (by kernel_rfl) ?_
        refine R.gyes rfl rfl ?_
        refine R.callV hf.1 rfl rfl rfl (hf.2 _ _ _ _ inferInstance hs) ?_
        rintro _ w5 ⟨cc5, rfl, hcc5, hs⟩
        refine D.backT (by kernel_rfl) ?_
        refine D.evPG 15 rfl (by kernel_rfl) rfl rfl rfl (np (by kernel_rfl)) (fun _ => (E.lss rfl rfl).isB (c := lt d1[i2]! d1[i2 - 1]!) hcc5) ?_
        refine D.evPG 16 rfl (by kernel_rfl) rfl rfl rfl (np (by kernel_rfl)) (fun _ => (E.not rfl).isB (c := !(lt d1[i2]! d1[i2 - 1]!)) rfl) ?_
        refine D.evP 17 rfl (by kernel_rfl) rfl (np (by kernel_rfl)) (fun _ => E.pickT rfl rfl) ?_
        refine D.done rfl (by kernel_rfl) ?_
        refine X.keep [(0, _), (1, _), (2, _), (3, _), (9, _), (10, _), (36, _)] ⟨rfl, rfl, rfl, rfl, rfl, rfl, rfl, trivial⟩ ?_
        refine X.cut (()) ⟨lkV rfl ?_, rfl, rfl, rfl, rfl, rfl, rfl, trivial⟩ ?_
        · first | exact gT h22 | exact gF h22
        exact hs
      · refine D.skipP 4 rfl (by kernel_rfl) rfl rfl rfl (fun _ => hs.to) ?_
        refine D.skipP 5 rfl (by kernel_rfl) rfl rfl rfl (fun _ => hs.to) ?_
        refine D.skipP 6 rfl (by kernel_rfl) rfl rfl rfl (fun _ => hs.to) ?_
        refine D.skipP 7 rfl (by kernel_rfl) rfl rfl rfl (fun _ => hs.to) ?_
        refine D.skipP 9 rfl (by kernel_rfl) rfl rfl rfl (fun _ => hs.to) ?_
        refine D.skipP 10 rfl (by kernel_rfl) rfl rfl rfl (fun _ => hs.to) ?_
        refine D.skipP 11 rfl (by kernel_rfl) rfl rfl rfl (fun _ => hs.to) ?_
        refine D.skipP 12 rfl (by kernel_rfl) rfl rfl rfl (fun _ => hs.to) ?_
        refine D.skip 8 rfl (by kernel_rfl) rfl rfl rfl hs.to ?_
        refine D.skip 13 rfl (by kernel_rfl) rfl rfl rfl hs.to ?_
        refine D.act 14 rfl (by kernel_rfl) ?_
        refine R.gskip rfl rfl rfl ?_
        refine D.backT (by kernel_rfl) ?_
        refine D.skipP 15 rfl (by kernel_rfl) rfl rfl rfl (np (by kernel_rfl)) ?_
        refine D.skipP 16 rfl (by kernel_rfl) rfl rfl rfl (np (by kernel_rfl)) ?_
        refine D.evP 17 rfl (by kernel_rfl) rfl (np (by kernel_rfl)) (fun _ => E.pickF rfl rfl) ?_
        refine D.done rfl (by kernel_rfl) ?_
        refine X.keep [(0, _), (1, _), (2, _), (3, _), (9, _), (10, _), (36, _)] ⟨rfl, rfl, rfl, rfl, rfl, rfl, rfl, trivial⟩ ?_
        refine X.cut (()) ⟨lkV rfl ?_, rfl, rfl, rfl, rfl, rfl, rfl, trivial⟩ ?_
        · first | exact gT h22 | exact gF h22
        exact hs
    · rintro _ w5 hs
      refine X.keep [(0, _), (1, _), (2, _), (3, _), (9, _), (10, _), (36, _)] ⟨rfl, rfl, rfl, rfl, rfl, rfl, rfl, trivial⟩ ?_
      refine X.next ?_
      refine C.cbool rfl (fun h36 => ?_) (fun h36 => ?_)
      · have hT := and_T h36
        refine C.skip ?_
        refine X.next ?_
        refine C.block ?_
        refine C.region ?_
        refine R.ev rfl (E.move rfl) ?_
        refine R.ev rfl ((E.add rfl rfl (by omega) (by omega)).isI (c := ((i2 + 1 : Nat) : Int)) (by omega)) ?_
        refine R.ev rfl (E.assign rfl) ?_
        refine R.done ?_
        refine X.keep [(0, _), (1, _), (2, _), (3, _), (9, _), (10, _)] ⟨rfl, rfl, rfl, rfl, rfl, rfl, trivial⟩ ?_
        refine X.blockNormal ?_
        exact X.again (i2 + 1) ⟨rfl, rfl, rfl, rfl, rfl, rfl, trivial⟩ ⟨by rw [← hi2, scanSorted_go (i := i2) (by omega) (by simpa using hT.2)], by omega, by omega, hs⟩ (by omega)
      · have hF := and_F h36
        rw [scanSorted_stop (fun hh => hF ⟨by omega, by rw [hh.2]; rfl⟩)] at hi2
        refine C.exit ?_
        refine X.thenExit ?_
        refine X.loopExit ?_
        refine X.blockExit ?_
        refine X.next ?_
        refine C.seq ?_
        refine C.seq ?_
        refine C.region ?_
        refine R.ev rfl (E.move rfl) ?_
        refine R.ev rfl (E.move rfl) ?_
        refine R.ev rfl (E.eql rfl rfl) ?_
        refine R.done ?_
        refine X.keep [(0, _), (1, _), (2, _), (3, _), (9, _), (10, _), (41, _)] ⟨rfl, rfl, rfl, rfl, rfl, rfl, rfl, trivial⟩ ?_
        refine X.next ?_
        refine C.cdec rfl (fun h41 => ?_) (fun h41 => ?_)
        · refine C.seq ?_
          refine C.region ?_
          refine R.ev rfl (E.assign rfl) ?_
          refine R.done ?_
          refine X.keep [(8, _)] ⟨rfl, trivial⟩ ?_
          refine X.next ?_
          refine C.ret ?_
          refine X.thenRet ?_
          refine X.blockRet ?_
          refine X.thenRet ?_
          refine X.loopRet ?_
          refine X.blockRet ?_
          refine X.thenRet ?_
          refine X.ret1 rfl rfl ?_
          have e : i2 = b0 := by omega
          rw [pIns_sorted (by rw [← hi2, e])] at he
          rw [← he]
          exact ⟨rfl, F1, r1, hs⟩
        · refine C.skip ?_
          refine X.next ?_
          refine C.seq ?_
          refine C.seq ?_
          refine C.region ?_
          refine R.ev rfl (E.move rfl) ?_
          refine R.ev rfl (E.move rfl) ?_
          refine R.ev rfl ((E.sub rfl rfl (by omega) (by omega)).isI (c := ((b0 - a : Nat) : Int)) (by omega)) ?_
          refine R.ev rfl (E.lss rfl rfl) ?_
          refine R.done ?_
          refine X.keep [(0, _), (1, _), (2, _), (3, _), (9, _), (10, _), (45, _)] ⟨rfl, rfl, rfl, rfl, rfl, rfl, rfl, trivial⟩ ?_
          refine X.next ?_
          refine C.cdec rfl (fun h45 => ?_) (fun h45 => ?_)
          · refine C.seq ?_
            refine C.region ?_
            refine R.ev rfl (E.assign rfl) ?_
            refine R.done ?_
            refine X.keep [(8, _)] ⟨rfl, trivial⟩ ?_
            refine X.next ?_
            refine C.ret ?_
            refine X.thenRet ?_
            refine X.blockRet ?_
            refine X.thenRet ?_
            refine X.loopRet ?_
            refine X.blockRet ?_
            refine X.thenRet ?_
            refine X.ret1 rfl rfl ?_
            rw [pIns_short hi2.symm (by omega) (by omega)] at he
            rw [← he]
            exact ⟨rfl, F1, r1, hs⟩
          · refine C.skip ?_
            refine X.next ?_
            refine C.seq ?_
            refine C.drawn (SatS hs) ([9, 13], [0, 1, 2, 3, 4, 5, 6, 7, 8, 10, 11, 12, 14, 16]) (by kernel_rfl) ?_
            have hs := hs.drew
            have A1 := r1.el (K := K) (Hs := F1 :: Rs) (i := i2) (by omega)
            have A2 := r1.el (K := K) (Hs := F1 :: Rs) (i := i2 - 1) (by omega)
            refine D.evP 0 rfl (by kernel_rfl) rfl (fun _ => hs.to) (fun _ => E.move rfl) ?_
            refine D.evP 1 rfl (by kernel_rfl) rfl (fun _ => hs.to) (fun _ => E.move rfl) ?_
            refine D.evP 2 rfl (by kernel_rfl) rfl (fun _ => hs.to) (fun _ => E.move rfl) ?_
            refine D.evP 3 rfl (by kernel_rfl) rfl (fun _ => hs.to) (fun _ => E.move rfl) ?_
            refine D.evP 4 rfl (by kernel_rfl) rfl (fun _ => hs.to) (fun _ => (E.sub rfl rfl (by omega) (by omega)).isI (c := ((i2 - 1 : Nat) : Int)) (by omega)) ?_
            refine D.evP 5 rfl (by kernel_rfl) rfl (fun _ => hs.to) (fun _ => E.move rfl) ?_
            refine D.evP 6 rfl (by kernel_rfl) rfl (fun _ => hs.to) (fun _ => E.move rfl) ?_
            refine D.evP 7 rfl (by kernel_rfl) rfl (fun _ => hs.to) (fun _ => (E.sub rfl rfl (by omega) (by omega)).isI (c := ((i2 - 1 : Nat) : Int)) (by omega)) ?_
            refine D.evP 8 rfl (by kernel_rfl) rfl (fun _ => hs.to) (fun _ => E.indexAddr rfl rfl Tryz.underlying88 Tryz.sz50 rfl (by first | omega | decide)) ?_
            refine D.evP 10 rfl (by kernel_rfl) rfl (fun _ => hs.to) (fun _ => E.move rfl) ?_
            refine D.evP 11 rfl (by kernel_rfl) rfl (fun _ => hs.to) (fun _ => E.move rfl) ?_
            refine D.evP 12 rfl (by kernel_rfl) rfl (fun _ => hs.to) (fun _ => E.indexAddr rfl rfl Tryz.underlying88 Tryz.sz50 rfl (by first | omega | decide)) ?_
            refine D.ev 9 rfl (by kernel_rfl) rfl hs.to (fun _ hS => E.loadRowC rfl Tryz.underlying50 rfl Tryz.sz50 ⟨A2 _ hS, Enc.len _⟩) ?_
            refine D.ev 13 rfl (by kernel_rfl) rfl hs.to (fun _ hS => E.loadRowC rfl Tryz.underlying50 rfl Tryz.sz50 ⟨A1 _ hS, Enc.len _⟩) ?_
            refine D.evP 14 rfl (by kernel_rfl) rfl (fun _ => hs.to) (fun _ => E.indexAddr rfl rfl Tryz.underlying88 Tryz.sz50 rfl (by first | omega | decide)) ?_
            refine D.act 15 rfl (by kernel_rfl) ?_
            refine R.dset (i2) hs (r1) rfl rfl Tryz.sz50 (by omega) ?_
            intro w11a F11a r11a hs
            refine D.backT (by kernel_rfl) ?_
            refine D.evP 16 rfl (by kernel_rfl) rfl (np (by kernel_rfl)) (fun _ => E.indexAddr rfl rfl Tryz.underlying88 Tryz.sz50 rfl (by first | omega | decide)) ?_
            refine D.act 17 rfl (by kernel_rfl) ?_
            refine R.dset (i2 - 1) hs r11a rfl rfl Tryz.sz50 (by omega) ?_
            intro w11 F11 r11 hs
            refine D.backT (by kernel_rfl) ?_
            refine D.done rfl (by kernel_rfl) ?_
            refine X.keep [(0, _), (1, _), (2, _), (3, _), (9, _), (10, _)] ⟨rfl, rfl, rfl, rfl, rfl, rfl, trivial⟩ ?_
            refine X.next ?_
            refine C.seq ?_
            refine C.seq ?_
            refine C.region ?_
            refine R.ev rfl (E.move rfl) ?_
            refine R.ev rfl (E.move rfl) ?_
            refine R.ev rfl ((E.sub rfl rfl (by omega) (by omega)).isI (c := ((i2 - a : Nat) : Int)) (by omega)) ?_
            refine R.ev rfl (E.geq rfl rfl) ?_
            refine R.done ?_
            refine X.keep [(0, _), (1, _), (2, _), (3, _), (9, _), (10, _), (65, _)] ⟨rfl, rfl, rfl, rfl, rfl, rfl, rfl, trivial⟩ ?_
            refine X.next ?_
            refine C.cut [(0, _), (1, _), (2, _), (3, _), (9, _), (10, _)] (fun (_ : Array HEnt × Hl) => []) (fun (d3, F3) w' => d3 = (if i2 - a ≥ 2 then shiftDown lt (i2 - 1) (swp d1 i2 (i2 - 1)) else swp d1 i2 (i2 - 1)) ∧ heA b m c0 d3 F3 ∧ Sat K w' (F3 :: Rs)) ⟨rfl, rfl, rfl, rfl, rfl, rfl, trivial⟩ ?_ ?_
            · refine C.cdec rfl (fun h65 => ?_) (fun h65 => ?_)
              · refine C.seq ?_
                refine C.region ?_
                refine R.ev rfl (E.move rfl) ?_
                refine R.ev rfl ((E.sub rfl rfl (by omega) (by omega)).isI (c := ((i2 - 1 : Nat) : Int)) (by omega)) ?_
                refine R.ev rfl (E.assign rfl) ?_
                refine R.done ?_
                refine X.keep [(0, _), (1, _), (2, _), (3, _), (9, _), (10, _), (11, _)] ⟨rfl, rfl, rfl, rfl, rfl, rfl, rfl, trivial⟩ ?_
                refine X.next ?_
                refine C.block ?_
                refine C.loop (T := Nat × Array HEnt × Hl) [(0, _), (1, _), (2, _), (3, _), (9, _), (10, _)] (fun (j, _, _) => [(11, .int .i64 (j : Nat))]) (fun (j, d3, F3) w' => shiftDown lt j d3 = shiftDown lt (i2 - 1) (swp d1 i2 (i2 - 1)) ∧ j < i2 ∧ heA b m c0 d3 F3 ∧ Sat K w' (F3 :: Rs)) (fun (j, _) => j) ((i2 - 1, _, F11)) ⟨rfl, rfl, rfl, rfl, rfl, rfl, rfl, trivial⟩ ⟨rfl, by omega, r11, hs⟩ ?_
                rintro ⟨j, d3, F3⟩ w13 ⟨hj, hji, r3, hs⟩
                refine C.keep [(0, _), (1, _), (2, _), (3, _), (9, _), (10, _), (11, _)] ⟨rfl, rfl, rfl, rfl, rfl, rfl, rfl, trivial⟩ ?_
                refine C.seq ?_
                refine C.seq ?_
                refine C.region ?_
                refine R.ev rfl (E.move rfl) ?_
                refine R.ev rfl (E.geq rfl rfl) ?_
                refine R.done ?_
                refine X.keep [(0, _), (1, _), (2, _), (3, _), (9, _), (10, _), (11, _), (69, _)] ⟨rfl, rfl, rfl, rfl, rfl, rfl, rfl, rfl, trivial⟩ ?_
                refine X.next ?_
                refine C.cdec rfl (fun h69 => ?_) (fun h69 => ?_)
                · have A1 := r3.el (K := K) (Hs := F3 :: Rs) (i := j) (by omega)
                  have A2 := r3.el (K := K) (Hs := F3 :: Rs) (i := j - 1) (by omega)
                  refine C.skip ?_
                  refine X.next ?_
                  refine C.seq ?_
                  refine C.block ?_
                  refine C.seq ?_
                  refine C.seq ?_
                  refine C.drawn (SatS hs) ([4, 9], [0, 1, 2, 3, 5, 6, 7, 8, 11, 12]) (by kernel_rfl) ?_
                  have hs := hs.drew
                  refine D.evP 0 rfl (by kernel_rfl) rfl (fun _ => hs.to) (fun _ => E.move rfl) ?_
                  refine D.evP 1 rfl (by kernel_rfl) rfl (fun _ => hs.to) (fun _ => E.move rfl) ?_
                  refine D.evP 2 rfl (by kernel_rfl) rfl (fun _ => hs.to) (fun _ => E.move rfl) ?_
                  refine D.evP 3 rfl (by kernel_rfl) rfl (fun _ => hs.to) (fun _ => E.indexAddr rfl rfl Tryz.underlying88 Tryz.sz50 rfl (by first | omega | decide)) ?_
                  refine D.evP 5 rfl (by kernel_rfl) rfl (fun _ => hs.to) (fun _ => E.move rfl) ?_
                  refine D.evP 6 rfl (by kernel_rfl) rfl (fun _ => hs.to) (fun _ => E.move rfl) ?_
                  refine D.evP 7 rfl (by kernel_rfl) rfl (fun _ => hs.to) (fun _ => (E.sub rfl rfl (by omega) (by omega)).isI (c := ((j - 1 : Nat) : Int)) (by omega)) ?_
                  refine D.evP 8 rfl (by kernel_rfl) rfl (fun _ => hs.to) (fun _ => E.indexAddr rfl rfl Tryz.underlying88 Tryz.sz50 rfl (by first | omega | decide)) ?_
                  refine D.ev 4 rfl (by kernel_rfl) rfl hs.to (fun _ hS => E.loadRowC rfl Tryz.underlying50 rfl Tryz.sz50 ⟨A1 _ hS, Enc.len _⟩) ?_
                  refine D.ev 9 rfl (by kernel_rfl) rfl hs.to (fun _ hS => E.loadRowC rfl Tryz.underlying50 rfl Tryz.sz50 ⟨A2 _ hS, Enc.len _⟩) ?_
                  refine D.act 10 rfl (by kernel_rfl) ?_
                  refine R.callV hf.1 rfl rfl rfl (hf.2 _ _ _ _ inferInstance hs) ?_
                  rintro _ w16 ⟨cc16, rfl, hcc16, hs⟩
                  refine D.backT (by kernel_rfl) ?_
                  refine D.evP 11 rfl (by kernel_rfl) rfl (np (by kernel_rfl)) (fun _ => (E.lss rfl rfl).isB (c := lt d3[j]! d3[j - 1]!) hcc16) ?_
                  refine D.evP 12 rfl (by kernel_rfl) rfl (np (by kernel_rfl)) (fun _ => (E.not rfl).isB (c := !(lt d3[j]! d3[j - 1]!)) rfl) ?_
                  refine D.done rfl (by kernel_rfl) ?_
                  refine X.keep [(0, _), (1, _), (2, _), (3, _), (9, _), (10, _), (11, _), (84, _)] ⟨rfl, rfl, rfl, rfl, rfl, rfl, rfl, rfl, trivial⟩ ?_
                  refine X.next ?_
                  refine C.cbool rfl (fun h84 => ?_) (fun h84 => ?_)
                  · refine C.exit ?_
                    refine X.thenExit ?_
                    refine X.blockOther rfl ?_
                    refine X.thenExit ?_
                    refine X.loopExit ?_
                    refine X.blockExit ?_
                    first
                      | exact X.cut ((d3, F3)) ⟨rfl, rfl, rfl, rfl, rfl, rfl, trivial⟩ ⟨by rw [if_pos (by omega), ← hj]; exact (shiftDown_stop (fun hh => by rw [hh.2] at h84; exact Bool.noConfusion h84)).symm, r3, hs⟩
                      | exact X.cut ((d3, F3)) ⟨rfl, rfl, rfl, rfl, rfl, rfl, trivial⟩ ⟨by rw [if_pos (by omega), ← hj]; exact (shiftDown_stop (fun hh => by omega)).symm, r3, hs⟩
                      | exact X.cut ((_, F11)) ⟨rfl, rfl, rfl, rfl, rfl, rfl, trivial⟩ ⟨by rw [if_neg (by omega)]; rfl, r11, hs⟩
                  · refine C.skip ?_
                    refine X.next ?_
                    refine C.drawn (SatS hs) ([9, 13], [0, 1, 2, 3, 4, 5, 6, 7, 8, 10, 11, 12, 14, 16]) (by kernel_rfl) ?_
                    have hs := hs.drew
                    refine D.evP 0 rfl (by kernel_rfl) rfl (fun _ => hs.to) (fun _ => E.move rfl) ?_
                    refine D.evP 1 rfl (by kernel_rfl) rfl (fun _ => hs.to) (fun _ => E.move rfl) ?_
                    refine D.evP 2 rfl (by kernel_rfl) rfl (fun _ => hs.to) (fun _ => E.move rfl) ?_
                    refine D.evP 3 rfl (by kernel_rfl) rfl (fun _ => hs.to) (fun _ => E.move rfl) ?_
                    refine D.evP 4 rfl (by kernel_rfl) rfl (fun _ => hs.to) (fun _ => (E.sub rfl rfl (by omega) (by omega)).isI (c := ((j - 1 : Nat) : Int)) (by omega)) ?_
                    refine D.evP 5 rfl (by kernel_rfl) rfl (fun _ => hs.to) (fun _ => E.move rfl) ?_
                    refine D.evP 6 rfl (by kernel_rfl) rfl (fun _ => hs.to) (fun _ => E.move rfl) ?_
                    refine D.evP 7 rfl (by kernel_rfl) rfl (fun _ => hs.to) (fun _ => (E.sub rfl rfl (by omega) (by omega)).isI (c := ((j - 1 : Nat) : Int)) (by omega)) ?_
                    refine D.evP 8 rfl (by kernel_rfl) rfl (fun _ => hs.to) (fun _ => E.indexAddr rfl rfl Tryz.underlying88 Tryz.sz50 rfl (by first | omega | decide)) ?_
                    refine D.evP 10 rfl (by kernel_rfl) rfl (fun _ => hs.to) (fun _ => E.move rfl) ?_
                    refine D.evP 11 rfl (by kernel_rfl) rfl (fun _ => hs.to) (fun _ => E.move rfl) ?_
                    refine D.evP 12 rfl (by kernel_rfl) rfl (fun _ => hs.to) (fun _ => E.indexAddr rfl rfl Tryz.underlying88 Tryz.sz50 rfl (by first | omega | decide)) ?_
                    refine D.ev 9 rfl (by kernel_rfl) rfl hs.to (fun _ hS => E.loadRowC rfl Tryz.underlying50 rfl Tryz.sz50 ⟨A2 _ hS, Enc.len _⟩) ?_
                    refine D.ev 13 rfl (by kernel_rfl) rfl hs.to (fun _ hS => E.loadRowC rfl Tryz.underlying50 rfl Tryz.sz50 ⟨A1 _ hS, Enc.len _⟩) ?_
                    refine D.evP 14 rfl (by kernel_rfl) rfl (fun _ => hs.to) (fun _ => E.indexAddr rfl rfl Tryz.underlying88 Tryz.sz50 rfl (by first | omega | decide)) ?_
                    refine D.act 15 rfl (by kernel_rfl) ?_
                    refine R.dset (j) hs (r3) rfl rfl Tryz.sz50 (by omega) ?_
                    intro w17a F17a r17a hs
                    refine D.backT (by kernel_rfl) ?_
                    refine D.evP 16 rfl (by kernel_rfl) rfl (np (by kernel_rfl)) (fun _ => E.indexAddr rfl rfl Tryz.underlying88 Tryz.sz50 rfl (by first | omega | decide)) ?_
                    refine D.act 17 rfl (by kernel_rfl) ?_
                    refine R.dset (j - 1) hs r17a rfl rfl Tryz.sz50 (by omega) ?_
                    intro w17 F17 r17 hs
                    refine D.backT (by kernel_rfl) ?_
                    refine D.done rfl (by kernel_rfl) ?_
                    refine X.keep [(0, _), (1, _), (2, _), (3, _), (9, _), (10, _), (11, _)] ⟨rfl, rfl, rfl, rfl, rfl, rfl, rfl, trivial⟩ ?_
                    refine X.blockNormal ?_
                    refine X.next ?_
                    refine C.region ?_
                    refine R.ev rfl (E.move rfl) ?_
                    refine R.ev rfl ((E.sub rfl rfl (by omega) (by omega)).isI (c := ((j - 1 : Nat) : Int)) (by omega)) ?_
                    refine R.ev rfl (E.assign rfl) ?_
                    refine R.done ?_
                    refine X.keep [(0, _), (1, _), (2, _), (3, _), (9, _), (10, _), (11, _)] ⟨rfl, rfl, rfl, rfl, rfl, rfl, rfl, trivial⟩ ?_
                    exact X.again (j - 1, _, F17) ⟨rfl, rfl, rfl, rfl, rfl, rfl, rfl, trivial⟩ ⟨(shiftDown_go (d := d3) (by omega) (by simpa using h84)).symm.trans hj, by omega, r17, hs⟩ (by show j - 1 < j; omega)
                · refine C.exit ?_
                  refine X.thenExit ?_
                  refine X.loopExit ?_
                  refine X.blockExit ?_
                  first
                    | exact X.cut ((d3, F3)) ⟨rfl, rfl, rfl, rfl, rfl, rfl, trivial⟩ ⟨by rw [if_pos (by omega), ← hj]; exact (shiftDown_stop (fun hh => by rw [hh.2] at h84; exact Bool.noConfusion h84)).symm, r3, hs⟩
                    | exact X.cut ((d3, F3)) ⟨rfl, rfl, rfl, rfl, rfl, rfl, trivial⟩ ⟨by rw [if_pos (by omega), ← hj]; exact (shiftDown_stop (fun hh => by omega)).symm, r3, hs⟩
                    | exact X.cut ((_, F11)) ⟨rfl, rfl, rfl, rfl, rfl, rfl, trivial⟩ ⟨by rw [if_neg (by omega)]; rfl, r11, hs⟩
              · refine C.skip ?_
                first
                  | exact X.cut ((d3, F3)) ⟨rfl, rfl, rfl, rfl, rfl, rfl, trivial⟩ ⟨by rw [if_pos (by omega), ← hj]; exact (shiftDown_stop (fun hh => by rw [hh.2] at h84; exact Bool.noConfusion h84)).symm, r3, hs⟩
                  | exact X.cut ((d3, F3)) ⟨rfl, rfl, rfl, rfl, rfl, rfl, trivial⟩ ⟨by rw [if_pos (by omega), ← hj]; exact (shiftDown_stop (fun hh => by omega)).symm, r3, hs⟩
                  | exact X.cut ((_, F11)) ⟨rfl, rfl, rfl, rfl, rfl, rfl, trivial⟩ ⟨by rw [if_neg (by omega)]; rfl, r11, hs⟩
            · rintro ⟨d3, F3⟩ w12 ⟨hd3, r3, hs⟩
              refine X.keep [(0, _), (1, _), (2, _), (3, _), (9, _), (10, _)] ⟨rfl, rfl, rfl, rfl, rfl, rfl, trivial⟩ ?_
              refine X.next ?_
              refine C.seq ?_
              refine C.region ?_
              refine R.ev rfl (E.move rfl) ?_
              refine R.ev rfl (E.move rfl) ?_
              refine R.ev rfl ((E.sub rfl rfl (by omega) (by omega)).isI (c := ((b0 - i2 : Nat) : Int)) (by omega)) ?_
              refine R.ev rfl (E.geq rfl rfl) ?_
              refine R.done ?_
              refine X.keep [(0, _), (1, _), (2, _), (3, _), (9, _), (10, _), (104, _)] ⟨rfl, rfl, rfl, rfl, rfl, rfl, rfl, trivial⟩ ?_
              refine X.next ?_
              refine C.cut [(0, _), (1, _), (2, _), (3, _), (9, _), (10, _)] (fun (_ : Array HEnt × Hl) => []) (fun (d4, F4) w' => d4 = (if b0 - i2 ≥ 2 then shiftUp lt b0 (i2 + 1) d3 else d3) ∧ heA b m c0 d4 F4 ∧ Sat K w' (F4 :: Rs)) ⟨rfl, rfl, rfl, rfl, rfl, rfl, trivial⟩ ?_ ?_
              · refine C.cdec rfl (fun h104 => ?_) (fun h104 => ?_)
                · refine C.seq ?_
                  refine C.region ?_
                  refine R.ev rfl (E.move rfl) ?_
                  refine R.ev rfl ((E.add rfl rfl (by omega) (by omega)).isI (c := ((i2 + 1 : Nat) : Int)) (by omega)) ?_
                  refine R.ev rfl (E.assign rfl) ?_
                  refine R.done ?_
                  refine X.keep [(0, _), (1, _), (2, _), (3, _), (9, _), (10, _), (12, _)] ⟨rfl, rfl, rfl, rfl, rfl, rfl, rfl, trivial⟩ ?_
                  refine X.next ?_
                  refine C.block ?_
                  refine C.loop (T := Nat × Array HEnt × Hl) [(0, _), (1, _), (2, _), (3, _), (9, _), (10, _)] (fun (j, _, _) => [(12, .int .i64 (j : Nat))]) (fun (j, d4, F4) w' => shiftUp lt b0 j d4 = shiftUp lt b0 (i2 + 1) d3 ∧ i2 < j ∧ j ≤ b0 ∧ heA b m c0 d4 F4 ∧ Sat K w' (F4 :: Rs)) (fun (j, _) => b0 - j) ((i2 + 1, d3, F3)) ⟨rfl, rfl, rfl, rfl, rfl, rfl, rfl, trivial⟩ ⟨rfl, by omega, by omega, r3, hs⟩ ?_
                  rintro ⟨j, d4, F4⟩ w19 ⟨hj, hji, hjb, r4, hs⟩
                  refine C.keep [(0, _), (1, _), (2, _), (3, _), (9, _), (10, _), (12, _)] ⟨rfl, rfl, rfl, rfl, rfl, rfl, rfl, trivial⟩ ?_
                  refine C.seq ?_
                  refine C.seq ?_
                  refine C.region ?_
                  refine R.ev rfl (E.move rfl) ?_
                  refine R.ev rfl (E.move rfl) ?_
                  refine R.ev rfl (E.lss rfl rfl) ?_
                  refine R.done ?_
                  refine X.keep [(0, _), (1, _), (2, _), (3, _), (9, _), (10, _), (12, _), (109, _)] ⟨rfl, rfl, rfl, rfl, rfl, rfl, rfl, rfl, trivial⟩ ?_
                  refine X.next ?_
                  refine C.cdec rfl (fun h109 => ?_) (fun h109 => ?_)
                  · have A1 := r4.el (K := K) (Hs := F4 :: Rs) (i := j) (by omega)
                    have A2 := r4.el (K := K) (Hs := F4 :: Rs) (i := j - 1) (by omega)
                    refine C.skip ?_
                    refine X.next ?_
                    refine C.seq ?_
                    refine C.block ?_
                    refine C.seq ?_
                    refine C.seq ?_
                    refine C.drawn (SatS hs) ([4, 9], [0, 1, 2, 3, 5, 6, 7, 8, 11, 12]) (by kernel_rfl) ?_
                    have hs := hs.drew
                    refine D.evP 0 rfl (by kernel_rfl) rfl (fun _ => hs.to) (fun _ => E.move rfl) ?_
                    refine D.evP 1 rfl (by kernel_rfl) rfl (fun _ => hs.to) (fun _ => E.move rfl) ?_
                    refine D.evP 2 rfl (by kernel_rfl) rfl (fun _ => hs.to) (fun _ => E.move rfl) ?_
                    refine D.evP 3 rfl (by kernel_rfl) rfl (fun _ => hs.to) (fun _ => E.indexAddr rfl rfl Tryz.underlying88 Tryz.sz50 rfl (by first | omega | decide)) ?_
                    refine D.evP 5 rfl (by kernel_rfl) rfl (fun _ => hs.to) (fun _ => E.move rfl) ?_
                    refine D.evP 6 rfl (by kernel_rfl) rfl (fun _ => hs.to) (fun _ => E.move rfl) ?_
                    refine D.evP 7 rfl (by kernel_rfl) rfl (fun _ => hs.to) (fun _ => (E.sub rfl rfl (by omega) (by omega)).isI (c := ((j - 1 : Nat) : Int)) (by omega)) ?_
                    refine D.evP 8 rfl (by kernel_rfl) rfl (fun _ => hs.to) (fun _ => E.indexAddr rfl rfl Tryz.underlying88 Tryz.sz50 rfl (by first | omega | decide)) ?_
                    refine D.ev 4 rfl (by kernel_rfl) rfl hs.to (fun _ hS => E.loadRowC rfl Tryz.underlying50 rfl Tryz.sz50 ⟨A1 _ hS, Enc.len _⟩) ?_
                    refine D.ev 9 rfl (by kernel_rfl) rfl hs.to (fun _ hS => E.loadRowC rfl Tryz.underlying50 rfl Tryz.sz50 ⟨A2 _ hS, Enc.len _⟩) ?_
                    refine D.act 10 rfl (by kernel_rfl) ?_
                    refine R.callV hf.1 rfl rfl rfl (hf.2 _ _ _ _ inferInstance hs) ?_
                    rintro _ w22 ⟨cc22, rfl, hcc22, hs⟩
                    refine D.backT (by kernel_rfl) ?_
                    refine D.evP 11 rfl (by kernel_rfl) rfl (np (by kernel_rfl)) (fun _ => (E.lss rfl rfl).isB (c := lt d4[j]! d4[j - 1]!) hcc22) ?_
                    refine D.evP 12 rfl (by kernel_rfl) rfl (np (by kernel_rfl)) (fun _ => (E.not rfl).isB (c := !(lt d4[j]! d4[j - 1]!)) rfl) ?_
                    refine D.done rfl (by kernel_rfl) ?_
                    refine X.keep [(0, _), (1, _), (2, _), (3, _), (9, _), (10, _), (12, _), (124, _)] ⟨rfl, rfl, rfl, rfl, rfl, rfl, rfl, rfl, trivial⟩ ?_
                    refine X.next ?_
                    refine C.cbool rfl (fun h124 => ?_) (fun h124 => ?_)
                    · refine C.exit ?_
                      refine X.thenExit ?_
                      refine X.blockOther rfl ?_
                      refine X.thenExit ?_
                      refine X.loopExit ?_
                      refine X.blockExit ?_
                      first
                        | exact X.cut ((d4, F4)) ⟨rfl, rfl, rfl, rfl, rfl, rfl, trivial⟩ ⟨by rw [if_pos (by omega), ← hj]; exact (shiftUp_stop (fun hh => by rw [hh.2] at h124; exact Bool.noConfusion h124)).symm, r4, hs⟩
                        | exact X.cut ((d4, F4)) ⟨rfl, rfl, rfl, rfl, rfl, rfl, trivial⟩ ⟨by rw [if_pos (by omega), ← hj]; exact (shiftUp_stop (fun hh => by omega)).symm, r4, hs⟩
                        | exact X.cut ((d3, F3)) ⟨rfl, rfl, rfl, rfl, rfl, rfl, trivial⟩ ⟨by rw [if_neg (by omega)], r3, hs⟩
                    · refine C.skip ?_
                      refine X.next ?_
                      refine C.drawn (SatS hs) ([9, 13], [0, 1, 2, 3, 4, 5, 6, 7, 8, 10, 11, 12, 14, 16]) (by kernel_rfl) ?_
                      have hs := hs.drew
                      refine D.evP 0 rfl (by kernel_rfl) rfl (fun _ => hs.to) (fun _ => E.move rfl) ?_
                      refine D.evP 1 rfl (by kernel_rfl) rfl (fun _ => hs.to) (fun _ => E.move rfl) ?_
                      refine D.evP 2 rfl (by kernel_rfl) rfl (fun _ => hs.to) (fun _ => E.move rfl) ?_
                      refine D.evP 3 rfl (by kernel_rfl) rfl (fun _ => hs.to) (fun _ => E.move rfl) ?_
                      refine D.evP 4 rfl (by kernel_rfl) rfl (fun _ => hs.to) (fun _ => (E.sub rfl rfl (by omega) (by omega)).isI (c := ((j - 1 : Nat) : Int)) (by omega)) ?_
                      refine D.evP 5 rfl (by kernel_rfl) rfl (fun _ => hs.to) (fun _ => E.move rfl) ?_
                      refine D.evP 6 rfl (by kernel_rfl) rfl (fun _ => hs.to) (fun _ => E.move rfl) ?_
                      refine D.evP 7 rfl (by kernel_rfl) rfl (fun _ => hs.to) (fun _ => (E.sub rfl rfl (by omega) (by omega)).isI (c := ((j - 1 : Nat) : Int)) (by omega)) ?_
                      refine D.evP 8 rfl (by kernel_rfl) rfl (fun _ => hs.to) (fun _ => E.indexAddr rfl rfl Tryz.underlying88 Tryz.sz50 rfl (by first | omega | decide)) ?_
                      refine D.evP 10 rfl (by kernel_rfl) rfl (fun _ => hs.to) (fun _ => E.move rfl) ?_
                      refine D.evP 11 rfl (by kernel_rfl) rfl (fun _ => hs.to) (fun _ => E.move rfl) ?_
                      refine D.evP 12 rfl (by kernel_rfl) rfl (fun _ => hs.to) (fun _ => E.indexAddr rfl rfl Tryz.underlying88 Tryz.sz50 rfl (by first | omega | decide)) ?_
                      refine D.ev 9 rfl (by kernel_rfl) rfl hs.to (fun _ hS => E.loadRowC rfl Tryz.underlying50 rfl Tryz.sz50 ⟨A2 _ hS, Enc.len _⟩) ?_
                      refine D.ev 13 rfl (by kernel_rfl) rfl hs.to (fun _ hS => E.loadRowC rfl Tryz.underlying50 rfl Tryz.sz50 ⟨A1 _ hS, Enc.len _⟩) ?_
                      refine D.evP 14 rfl (by kernel_rfl) rfl (fun _ => hs.to) (fun _ => E.indexAddr rfl rfl Tryz.underlying88 Tryz.sz50 rfl (by first | omega | decide)) ?_
                      refine D.act 15 rfl (by kernel_rfl) ?_
                      refine R.dset (j) hs (r4) rfl rfl Tryz.sz50 (by omega) ?_
                      intro w23a F23a r23a hs
                      refine D.backT (by kernel_rfl) ?_
                      refine D.evP 16 rfl (by kernel_rfl) rfl (np (by kernel_rfl)) (fun _ => E.indexAddr rfl rfl Tryz.underlying88 Tryz.sz50 rfl (by first | omega | decide)) ?_
                      refine D.act 17 rfl (by kernel_rfl) ?_
                      refine R.dset (j - 1) hs r23a rfl rfl Tryz.sz50 (by omega) ?_
                      intro w23 F23 r23 hs
                      refine D.backT (by kernel_rfl) ?_
                      refine D.done rfl (by kernel_rfl) ?_
                      refine X.keep [(0, _), (1, _), (2, _), (3, _), (9, _), (10, _), (12, _)] ⟨rfl, rfl, rfl, rfl, rfl, rfl, rfl, trivial⟩ ?_
                      refine X.blockNormal ?_
                      refine X.next ?_
                      refine C.region ?_
                      refine R.ev rfl (E.move rfl) ?_
                      refine R.ev rfl ((E.add rfl rfl (by omega) (by omega)).isI (c := ((j + 1 : Nat) : Int)) (by omega)) ?_
                      refine R.ev rfl (E.assign rfl) ?_
                      refine R.done ?_
                      refine X.keep [(0, _), (1, _), (2, _), (3, _), (9, _), (10, _), (12, _)] ⟨rfl, rfl, rfl, rfl, rfl, rfl, rfl, trivial⟩ ?_
                      exact X.again (j + 1, _, F23) ⟨rfl, rfl, rfl, rfl, rfl, rfl, rfl, trivial⟩ ⟨(shiftUp_go (d := d4) (by omega) (by simpa using h124)).symm.trans hj, by omega, by omega, r23, hs⟩ (by show _ - _ < _ - _; omega)
                  · refine C.exit ?_
                    refine X.thenExit ?_
                    refine X.loopExit ?_
                    refine X.blockExit ?_
                    first
                      | exact X.cut ((d4, F4)) ⟨rfl, rfl, rfl, rfl, rfl, rfl, trivial⟩ ⟨by rw [if_pos (by omega), ← hj]; exact (shiftUp_stop (fun hh => by rw [hh.2] at h124; exact Bool.noConfusion h124)).symm, r4, hs⟩
                      | exact X.cut ((d4, F4)) ⟨rfl, rfl, rfl, rfl, rfl, rfl, trivial⟩ ⟨by rw [if_pos (by omega), ← hj]; exact (shiftUp_stop (fun hh => by omega)).symm, r4, hs⟩
                      | exact X.cut ((d3, F3)) ⟨rfl, rfl, rfl, rfl, rfl, rfl, trivial⟩ ⟨by rw [if_neg (by omega)], r3, hs⟩
                · refine C.skip ?_
                  first
                    | exact X.cut ((d4, F4)) ⟨rfl, rfl, rfl, rfl, rfl, rfl, trivial⟩ ⟨by rw [if_pos (by omega), ← hj]; exact (shiftUp_stop (fun hh => by rw [hh.2] at h124; exact Bool.noConfusion h124)).symm, r4, hs⟩
                    | exact X.cut ((d4, F4)) ⟨rfl, rfl, rfl, rfl, rfl, rfl, trivial⟩ ⟨by rw [if_pos (by omega), ← hj]; exact (shiftUp_stop (fun hh => by omega)).symm, r4, hs⟩
                    | exact X.cut ((d3, F3)) ⟨rfl, rfl, rfl, rfl, rfl, rfl, trivial⟩ ⟨by rw [if_neg (by omega)], r3, hs⟩
              · rintro ⟨d4, F4⟩ w18 ⟨hd4, r4, hs⟩
                refine X.keep [(0, _), (1, _), (2, _), (3, _), (9, _), (10, _)] ⟨rfl, rfl, rfl, rfl, rfl, rfl, trivial⟩ ?_
                refine X.blockNormal ?_
                refine X.next ?_
                refine C.region ?_
                refine R.ev rfl (E.move rfl) ?_
                refine R.ev rfl ((E.add rfl rfl (by omega) (by omega)).isI (c := ((q + 1 : Nat) : Int)) (by omega)) ?_
                refine R.ev rfl (E.assign rfl) ?_
                refine R.done ?_
                refine X.keep [(0, _), (1, _), (2, _), (3, _), (9, _), (10, _)] ⟨rfl, rfl, rfl, rfl, rfl, rfl, trivial⟩ ?_
                exact X.again (q + 1, i2, d4, F4) ⟨rfl, rfl, rfl, rfl, rfl, rfl, trivial⟩ ⟨(pIns_go hi2.symm (by omega) (by omega) hd3 hd4).symm.trans he, by omega, by omega, by omega, r4, hs⟩ (by show _ - _ < _ - _; omega)
  · refine C.exit ?_
    refine X.thenExit ?_
    refine X.loopExit ?_
    refine X.blockExit ?_
    refine X.next ?_
    refine C.seq ?_
    refine C.region ?_
    refine R.ev rfl (E.assign rfl) ?_
    refine R.done ?_
    refine X.keep [(8, _)] ⟨rfl, trivial⟩ ?_
    refine X.next ?_
    refine C.ret ?_
    refine X.ret1 rfl rfl ?_
    rw [show 5 - q = 0 by omega] at he
    rw [← he]
    exact ⟨rfl, F1, r1, hs⟩
theorem heord_any {bs s : Nat} (hf : heCmp K Rs fid fst cps lt) (a b0 : Nat) (hs : Sat K w (row bs 3 [.int .i64 (s : Nat)] :: F :: Rs)) (hr : heA b m c0 d F) (ha : a < m) (hb : b0 < m) (hsm : s ≤ 1000) :
    Ret Tryz.prog 112 #[.slice (some ⟨b, 0, none⟩) m c0, .int .i64 (a : Nat), .int .i64 (b0 : Nat), .pointer (some ⟨bs, 0, none⟩), .func (.func fid) fst.toArray cps.toArray] w fun r w' => r = .tuple #[.int .i64 ((order2 lt d a b0 s).1 : Nat), .int .i64 ((order2 lt d a b0 s).2.1 : Nat)] ∧ Sat K w' (row bs 3 [.int .i64 ((order2 lt d a b0 s).2.2 : Nat)] :: F :: Rs) := by
  refine Ret.enter (n := 32) (args := [.slice (some ⟨b, 0, none⟩) m c0, .int .i64 (a : Nat), .int .i64 (b0 : Nat), .pointer (some ⟨bs, 0, none⟩), .func (.func fid) fst.toArray cps.toArray]) Tryz.func112 rfl rfl ?_
  refine C.keep [(0, _), (1, _), (2, _), (3, _), (4, _)] ⟨rfl, rfl, rfl, rfl, rfl, trivial⟩ ?_
  refine C.seq ?_
  refine C.region ?_
  refine R.ev rfl (E.assign rfl) ?_
  refine R.ev rfl (E.assign rfl) ?_
  refine R.done ?_
  refine X.keep [(0, _), (1, _), (2, _), (3, _), (4, _)] ⟨rfl, rfl, rfl, rfl, rfl, trivial⟩ ?_
  refine X.next ?_
  refine C.seq ?_
  refine C.seq ?_
  refine C.drawn (SatS hs) ([4, 8], [0, 1, 2, 3, 5, 6, 7, 10]) (by kernel_rfl) ?_
  have hs := hs.drew
  have A1 := hr.el (K := K) (Hs := row bs 3 [.int .i64 (s : Nat)] :: F :: Rs) (i := b0) (by omega)
  have A2 := hr.el (K := K) (Hs := row bs 3 [.int .i64 (s : Nat)] :: F :: Rs) (i := a) (by omega)
  refine D.evP 0 rfl (by kernel_rfl) rfl (fun _ => hs.to) (fun _ => E.move rfl) ?_
  refine D.evP 1 rfl (by kernel_rfl) rfl (fun _ => hs.to) (fun _ => E.move rfl) ?_
  refine D.evP 2 rfl (by kernel_rfl) rfl (fun _ => hs.to) (fun _ => E.move rfl) ?_
  refine D.evP 3 rfl (by kernel_rfl) rfl (fun _ => hs.to) (fun _ => E.indexAddr rfl rfl Tryz.underlying88 Tryz.sz50 rfl (by first | omega | decide)) ?_
  refine D.evP 5 rfl (by kernel_rfl) rfl (fun _ => hs.to) (fun _ => E.move rfl) ?_
  refine D.evP 6 rfl (by kernel_rfl) rfl (fun _ => hs.to) (fun _ => E.move rfl) ?_
  refine D.evP 7 rfl (by kernel_rfl) rfl (fun _ => hs.to) (fun _ => E.indexAddr rfl rfl Tryz.underlying88 Tryz.sz50 rfl (by first | omega | decide)) ?_
  refine D.ev 4 rfl (by kernel_rfl) rfl hs.to (fun _ hS => E.loadRowC rfl Tryz.underlying50 rfl Tryz.sz50 ⟨A1 _ hS, Enc.len _⟩) ?_
  refine D.ev 8 rfl (by kernel_rfl) rfl hs.to (fun _ hS => E.loadRowC rfl Tryz.underlying50 rfl Tryz.sz50 ⟨A2 _ hS, Enc.len _⟩) ?_
  refine D.act 9 rfl (by kernel_rfl) ?_
  refine R.callV hf.1 rfl rfl rfl (hf.2 _ _ _ _ inferInstance hs) ?_
  rintro _ w1 ⟨cc1, rfl, hcc1, hs⟩
  refine D.backT (by kernel_rfl) ?_
  refine D.evP 10 rfl (by kernel_rfl) rfl (np (by kernel_rfl)) (fun _ => (E.lss rfl rfl).isB (c := lt d[b0]! d[a]!) hcc1) ?_
  refine D.done rfl (by kernel_rfl) ?_
  refine X.keep [(1, _), (2, _), (3, _), (22, _)] ⟨rfl, rfl, rfl, rfl, trivial⟩ ?_
  refine X.next ?_
  refine C.cbool rfl (fun h22 => ?_) (fun h22 => ?_)
  · refine C.seq ?_
    refine C.region ?_
    refine R.ev rfl (E.move rfl) ?_
    refine R.ev rfl (E.nilCheck rfl) ?_
    refine R.ev rfl (E.load1 rfl Tryz.underlying3 rfl (by first | exact hs.ldc | exact hs.ld rfl | exact hs.ld (by assumption) | exact by assumption | exact At.cellC (by assumption) | exact hs.ldK rfl)) ?_
    refine R.ev rfl ((E.add rfl rfl (by omega) (by omega)).isI (c := ((s + 1 : Nat) : Int)) (by omega)) ?_
    refine R.ev rfl (E.nilCheck rfl) ?_
    refine R.cstore1 hs rfl rfl Tryz.sz3 (by first | decide | simp [*]) (by first | rfl | exact OneC.one | exact KRow.oneC' (by assumption)) ?_
    intro w2_5 hs
    try simp only [List.set_cons_zero, List.set_cons_succ] at hs
    refine R.done ?_
    refine X.keep [(1, _), (2, _)] ⟨rfl, rfl, trivial⟩ ?_
    refine X.next ?_
    refine C.seq ?_
    refine C.region ?_
    refine R.ev rfl (E.move rfl) ?_
    refine R.ev rfl (E.move rfl) ?_
    refine R.ev rfl (E.assign rfl) ?_
    refine R.ev rfl (E.assign rfl) ?_
    refine R.done ?_
    refine X.keep [(10, _), (11, _)] ⟨rfl, rfl, trivial⟩ ?_
    refine X.next ?_
    refine C.ret ?_
    refine X.thenRet ?_
    refine X.ret2 rfl rfl rfl ?_
    have e : order2 lt d a b0 s = (b0, a, s + 1) := by rw [order2, if_pos h22]
    rw [e]; exact ⟨rfl, hs⟩
  · refine C.skip ?_
    refine X.next ?_
    refine C.seq ?_
    refine C.region ?_
    refine R.ev rfl (E.move rfl) ?_
    refine R.ev rfl (E.move rfl) ?_
    refine R.ev rfl (E.assign rfl) ?_
    refine R.ev rfl (E.assign rfl) ?_
    refine R.done ?_
    refine X.keep [(10, _), (11, _)] ⟨rfl, rfl, trivial⟩ ?_
    refine X.next ?_
    refine C.ret ?_
    refine X.ret2 rfl rfl rfl ?_
    have e : order2 lt d a b0 s = (a, b0, s) := by rw [order2, if_neg (by rw [h22]; decide)]
    rw [e]; exact ⟨rfl, hs⟩
theorem order2_in {a b s N : Nat} (ha : a < N) (hb : b < N) : (order2 lt d a b s).1 < N ∧ (order2 lt d a b s).2.1 < N := by
  unfold order2; split <;> exact ⟨by assumption, by assumption⟩
theorem hemed_any {bs s : Nat} (hf : heCmp K Rs fid fst cps lt) (a b0 c : Nat) (hs : Sat K w (row bs 3 [.int .i64 (s : Nat)] :: F :: Rs)) (hr : heA b m c0 d F) (ha : a < m) (hb : b0 < m) (hc : c < m) (hsm : s ≤ 100) :
    Ret Tryz.prog 107 #[.slice (some ⟨b, 0, none⟩) m c0, .int .i64 (a : Nat), .int .i64 (b0 : Nat), .int .i64 (c : Nat), .pointer (some ⟨bs, 0, none⟩), .func (.func fid) fst.toArray cps.toArray] w fun r w' => r = .int .i64 ((median lt d a b0 c s).1 : Nat) ∧ Sat K w' (row bs 3 [.int .i64 ((median lt d a b0 c s).2 : Nat)] :: F :: Rs) := by
  have i1 := order2_in (lt := lt) (d := d) (s := s) ha hb
  have n1 := order2_count lt d a b0 s
  have i2 := order2_in (lt := lt) (d := d) (s := (order2 lt d a b0 s).2.2) i1.2 hc
  have n2 := order2_count lt d (order2 lt d a b0 s).2.1 c (order2 lt d a b0 s).2.2
  refine Ret.enter (n := 41) (args := [.slice (some ⟨b, 0, none⟩) m c0, .int .i64 (a : Nat), .int .i64 (b0 : Nat), .int .i64 (c : Nat), .pointer (some ⟨bs, 0, none⟩), .func (.func fid) fst.toArray cps.toArray]) Tryz.func107 rfl rfl ?_
  refine C.keep [(0, _), (1, _), (2, _), (3, _), (4, _), (5, _)] ⟨rfl, rfl, rfl, rfl, rfl, rfl, trivial⟩ ?_
  refine C.seq ?_
  refine C.region ?_
  refine R.ev rfl (E.assign rfl) ?_
  refine R.done ?_
  refine X.keep [(0, _), (1, _), (2, _), (3, _), (4, _), (5, _)] ⟨rfl, rfl, rfl, rfl, rfl, rfl, trivial⟩ ?_
  refine X.next ?_
  refine C.seq ?_
  refine C.region ?_
  refine R.ev rfl (E.move rfl) ?_
  refine R.ev rfl (E.move rfl) ?_
  refine R.ev rfl (E.move rfl) ?_
  refine R.ev rfl (E.move rfl) ?_
  refine R.ev rfl (E.move rfl) ?_
  refine R.call ⟨_, _, Tryz.func112, rfl, by kernel_rfl⟩ rfl rfl (heord_any hf a b0 hs hr ha hb (by omega)) ?_
  rintro _ w1 ⟨rfl, hs⟩
  refine R.ev rfl (E.move rfl) ?_
  refine R.ev rfl (E.extract rfl rfl) ?_
  refine R.ev rfl (E.extract rfl rfl) ?_
  refine R.ev rfl (E.assign rfl) ?_
  refine R.ev rfl (E.assign rfl) ?_
  refine R.done ?_
  refine X.keep [(0, _), (1, _), (2, _), (3, _), (4, _), (5, _)] ⟨rfl, rfl, rfl, rfl, rfl, rfl, trivial⟩ ?_
  refine X.next ?_
  refine C.seq ?_
  refine C.region ?_
  refine R.ev rfl (E.move rfl) ?_
  refine R.ev rfl (E.move rfl) ?_
  refine R.ev rfl (E.move rfl) ?_
  refine R.ev rfl (E.move rfl) ?_
  refine R.ev rfl (E.move rfl) ?_
  refine R.call ⟨_, _, Tryz.func112, rfl, by kernel_rfl⟩ rfl rfl (heord_any hf (order2 lt d a b0 s).2.1 c hs hr i1.2 hc (by omega)) ?_
  rintro _ w2 ⟨rfl, hs⟩
  refine R.ev rfl (E.move rfl) ?_
  refine R.ev rfl (E.extract rfl rfl) ?_
  refine R.ev rfl (E.extract rfl rfl) ?_
  refine R.ev rfl (E.assign rfl) ?_
  refine R.ev rfl (E.assign rfl) ?_
  refine R.done ?_
  refine X.keep [(0, _), (1, _), (2, _), (4, _), (5, _)] ⟨rfl, rfl, rfl, rfl, rfl, trivial⟩ ?_
  refine X.next ?_
  refine C.seq ?_
  refine C.region ?_
  refine R.ev rfl (E.move rfl) ?_
  refine R.ev rfl (E.move rfl) ?_
  refine R.ev rfl (E.move rfl) ?_
  refine R.ev rfl (E.move rfl) ?_
  refine R.ev rfl (E.move rfl) ?_
  refine R.call ⟨_, _, Tryz.func112, rfl, by kernel_rfl⟩ rfl rfl (heord_any hf (order2 lt d a b0 s).1 (order2 lt d (order2 lt d a b0 s).2.1 c (order2 lt d a b0 s).2.2).1 hs hr i1.1 i2.1 (by omega)) ?_
  rintro _ w3 ⟨rfl, hs⟩
  refine R.ev rfl (E.move rfl) ?_
  refine R.ev rfl (E.extract rfl rfl) ?_
  refine R.ev rfl (E.extract rfl rfl) ?_
  refine R.ev rfl (E.assign rfl) ?_
  refine R.ev rfl (E.assign rfl) ?_
  refine R.done ?_
  refine X.keep [(2, _)] ⟨rfl, trivial⟩ ?_
  refine X.next ?_
  refine C.seq ?_
  refine C.region ?_
  refine R.ev rfl (E.move rfl) ?_
  refine R.ev rfl (E.assign rfl) ?_
  refine R.done ?_
  refine X.keep [(12, _)] ⟨rfl, trivial⟩ ?_
  refine X.next ?_
  refine C.ret ?_
  refine X.ret1 rfl rfl ?_
  exact ⟨rfl, hs⟩
theorem hemadj_any {bs s : Nat} (hf : heCmp K Rs fid fst cps lt) (a : Nat) (hs : Sat K w (row bs 3 [.int .i64 (s : Nat)] :: F :: Rs)) (hr : heA b m c0 d F) (ha0 : 0 < a) (ha : a + 1 < m) (hm : m ≤ 1000000000) (hsm : s ≤ 100) :
    Ret Tryz.prog 106 #[.slice (some ⟨b, 0, none⟩) m c0, .int .i64 (a : Nat), .pointer (some ⟨bs, 0, none⟩), .func (.func fid) fst.toArray cps.toArray] w fun r w' => r = .int .i64 ((medianAdjacent lt d a s).1 : Nat) ∧ Sat K w' (row bs 3 [.int .i64 ((medianAdjacent lt d a s).2 : Nat)] :: F :: Rs) := by
  refine Ret.enter (n := 18) (args := [.slice (some ⟨b, 0, none⟩) m c0, .int .i64 (a : Nat), .pointer (some ⟨bs, 0, none⟩), .func (.func fid) fst.toArray cps.toArray]) Tryz.func106 rfl rfl ?_
  refine C.keep [(0, _), (1, _), (2, _), (3, _)] ⟨rfl, rfl, rfl, rfl, trivial⟩ ?_
  refine C.seq ?_
  refine C.region ?_
  refine R.ev rfl (E.assign rfl) ?_
  refine R.done ?_
  refine X.keep [(0, _), (1, _), (2, _), (3, _)] ⟨rfl, rfl, rfl, rfl, trivial⟩ ?_
  refine X.next ?_
  refine C.seq ?_
  refine C.region ?_
  refine R.ev rfl (E.move rfl) ?_
  refine R.ev rfl (E.move rfl) ?_
  refine R.ev rfl ((E.sub rfl rfl (by omega) (by omega)).isI (c := ((a - 1 : Nat) : Int)) (by omega)) ?_
  refine R.ev rfl (E.move rfl) ?_
  refine R.ev rfl (E.move rfl) ?_
  refine R.ev rfl ((E.add rfl rfl (by omega) (by omega)).isI (c := ((a + 1 : Nat) : Int)) (by omega)) ?_
  refine R.ev rfl (E.move rfl) ?_
  refine R.ev rfl (E.move rfl) ?_
  refine R.call ⟨_, _, Tryz.func107, rfl, by kernel_rfl⟩ rfl rfl (hemed_any hf (a - 1) a (a + 1) hs hr (by omega) (by omega) (by omega) hsm) ?_
  rintro _ w1 ⟨rfl, hs⟩
  refine R.ev rfl (E.assign rfl) ?_
  refine R.done ?_
  refine X.keep [(8, _)] ⟨rfl, trivial⟩ ?_
  refine X.next ?_
  refine C.ret ?_
  refine X.ret1 rfl rfl ?_
  exact ⟨rfl, hs⟩
theorem hepiv_any (hf : heCmp K Rs fid fst cps lt) (a b0 : Nat) (hs : Sat K w (F :: Rs)) (hr : heA b m c0 d F) (hab : a < b0) (hb : b0 ≤ m) (hm : m ≤ 1000000000) :
    Ret Tryz.prog 90 #[.slice (some ⟨b, 0, none⟩) m c0, .int .i64 (a : Nat), .int .i64 (b0 : Nat), .func (.func fid) fst.toArray cps.toArray] w fun r w' => r = .tuple #[.int .i64 ((choosePivot lt d a b0).1 : Nat), .int .i64 (hintCode (choosePivot lt d a b0).2)] ∧ Sat K w' (F :: Rs) := by
  refine Ret.enter (n := 63) (args := [.slice (some ⟨b, 0, none⟩) m c0, .int .i64 (a : Nat), .int .i64 (b0 : Nat), .func (.func fid) fst.toArray cps.toArray]) Tryz.func90 rfl rfl ?_
  refine C.keep [(0, _), (1, _), (2, _), (3, _)] ⟨rfl, rfl, rfl, rfl, trivial⟩ ?_
  refine C.seq ?_
  refine C.region ?_
  refine R.ev rfl (E.assign rfl) ?_
  refine R.ev rfl (E.assign rfl) ?_
  refine R.done ?_
  refine X.keep [(0, _), (1, _), (2, _), (3, _)] ⟨rfl, rfl, rfl, rfl, trivial⟩ ?_
  refine X.next ?_
  refine C.seq ?_
  refine C.region ?_
  refine R.ev rfl (E.move rfl) ?_
  refine R.ev rfl (E.move rfl) ?_
  refine R.ev rfl ((E.sub rfl rfl (by omega) (by omega)).isI (c := ((b0 - a : Nat) : Int)) (by omega)) ?_
  refine R.ev rfl (E.assign rfl) ?_
  refine R.done ?_
  refine X.keep [(0, _), (1, _), (3, _), (10, _)] ⟨rfl, rfl, rfl, rfl, trivial⟩ ?_
  refine X.next ?_
  refine C.seq ?_
  refine C.region ?_
  refine R.salloc1 hs Tryz.zr3 rfl rfl ?_
  intro b11 w11 hs
  refine R.done ?_
  refine X.keep [(0, _), (1, _), (3, _), (10, _), (11, _)] ⟨rfl, rfl, rfl, rfl, rfl, trivial⟩ ?_
  refine X.next ?_
  refine C.seq ?_
  refine C.region ?_
  refine R.ev rfl (E.move rfl) ?_
  refine R.ev rfl (E.move rfl) ?_
  refine R.ev rfl ((E.quo rfl rfl (by omega) (by omega) (by omega)).isI (c := (((b0 - a) / 4 : Nat) : Int)) (by omega)) ?_
  refine R.ev rfl ((E.mul rfl rfl (by omega) (by omega)).isI (c := (((b0 - a) / 4 * 1 : Nat) : Int)) (by omega)) ?_
  refine R.ev rfl ((E.add rfl rfl (by omega) (by omega)).isI (c := ((a + (b0 - a) / 4 * 1 : Nat) : Int)) (by omega)) ?_
  refine R.ev rfl (E.assign rfl) ?_
  refine R.done ?_
  refine X.keep [(0, _), (1, _), (3, _), (10, _), (11, _), (12, _)] ⟨rfl, rfl, rfl, rfl, rfl, rfl, trivial⟩ ?_
  refine X.next ?_
  refine C.seq ?_
  refine C.region ?_
  refine R.ev rfl (E.move rfl) ?_
  refine R.ev rfl (E.move rfl) ?_
  refine R.ev rfl ((E.quo rfl rfl (by omega) (by omega) (by omega)).isI (c := (((b0 - a) / 4 : Nat) : Int)) (by omega)) ?_
  refine R.ev rfl ((E.mul rfl rfl (by omega) (by omega)).isI (c := (((b0 - a) / 4 * 2 : Nat) : Int)) (by omega)) ?_
  refine R.ev rfl ((E.add rfl rfl (by omega) (by omega)).isI (c := ((a + (b0 - a) / 4 * 2 : Nat) : Int)) (by omega)) ?_
  refine R.ev rfl (E.assign rfl) ?_
  refine R.done ?_
  refine X.keep [(0, _), (1, _), (3, _), (10, _), (11, _), (12, _), (13, _)] ⟨rfl, rfl, rfl, rfl, rfl, rfl, rfl, trivial⟩ ?_
  refine X.next ?_
  refine C.seq ?_
  refine C.region ?_
  refine R.ev rfl (E.move rfl) ?_
  refine R.ev rfl (E.move rfl) ?_
  refine R.ev rfl ((E.quo rfl rfl (by omega) (by omega) (by omega)).isI (c := (((b0 - a) / 4 : Nat) : Int)) (by omega)) ?_
  refine R.ev rfl ((E.mul rfl rfl (by omega) (by omega)).isI (c := (((b0 - a) / 4 * 3 : Nat) : Int)) (by omega)) ?_
  refine R.ev rfl ((E.add rfl rfl (by omega) (by omega)).isI (c := ((a + (b0 - a) / 4 * 3 : Nat) : Int)) (by omega)) ?_
  refine R.ev rfl (E.assign rfl) ?_
  refine R.done ?_
  refine X.keep [(0, _), (3, _), (10, _), (11, _), (12, _), (13, _), (14, _)] ⟨rfl, rfl, rfl, rfl, rfl, rfl, rfl, trivial⟩ ?_
  refine X.next ?_
  refine C.seq ?_
  refine C.seq ?_
  refine C.region ?_
  have hs : Sat K _ (row b11 3 [.int .i64 ((0 : Nat) : Int)] :: F :: Rs) := hs
  refine R.ev rfl (E.move rfl) ?_
  refine R.ev rfl (E.geq rfl rfl) ?_
  refine R.done ?_
  refine X.keep [(0, _), (3, _), (10, _), (11, _), (12, _), (13, _), (14, _), (34, _)] ⟨rfl, rfl, rfl, rfl, rfl, rfl, rfl, rfl, trivial⟩ ?_
  refine X.next ?_
  refine C.cut [(11, _)] (fun (_ : Unit) => [(13, .int .i64 ((rawPivot lt d a b0).1 : Nat))]) (fun _ w' => Sat K w' (row b11 3 [.int .i64 ((rawPivot lt d a b0).2 : Nat)] :: F :: Rs)) ⟨rfl, trivial⟩ ?_ ?_
  · refine C.cdec rfl (fun h34 => ?_) (fun h34 => ?_)
    · refine C.seq ?_
      refine C.seq ?_
      refine C.region ?_
      refine R.ev rfl (E.move rfl) ?_
      refine R.ev rfl (E.geq rfl rfl) ?_
      refine R.done ?_
      refine X.keep [(0, _), (3, _), (11, _), (12, _), (13, _), (14, _), (36, _)] ⟨rfl, rfl, rfl, rfl, rfl, rfl, rfl, trivial⟩ ?_
      refine X.next ?_
      refine C.cdec rfl (fun h36 => ?_) (fun h36 => ?_)
      · refine C.seq ?_
        refine C.region ?_
        refine R.ev rfl (E.move rfl) ?_
        refine R.ev rfl (E.move rfl) ?_
        refine R.ev rfl (E.move rfl) ?_
        refine R.call ⟨_, _, Tryz.func106, rfl, by kernel_rfl⟩ rfl rfl (hemadj_any hf (a + (b0 - a) / 4 * 1) hs hr (by omega) (by omega) hm (by omega)) ?_
        rintro _ w8 ⟨rfl, hs⟩
        have n1 := medianAdjacent_count lt d (a + (b0 - a) / 4 * 1) 0
        have m1 := medianAdjacent_mem lt d (a + (b0 - a) / 4 * 1) 0
        refine R.ev rfl (E.assign rfl) ?_
        refine R.done ?_
        refine X.keep [(0, _), (3, _), (11, _), (12, _), (13, _), (14, _)] ⟨rfl, rfl, rfl, rfl, rfl, rfl, trivial⟩ ?_
        refine X.next ?_
        refine C.seq ?_
        refine C.region ?_
        refine R.ev rfl (E.move rfl) ?_
        refine R.ev rfl (E.move rfl) ?_
        refine R.ev rfl (E.move rfl) ?_
        refine R.call ⟨_, _, Tryz.func106, rfl, by kernel_rfl⟩ rfl rfl (hemadj_any hf (a + (b0 - a) / 4 * 2) hs hr (by omega) (by omega) hm (by omega)) ?_
        rintro _ w9 ⟨rfl, hs⟩
        have n2 := medianAdjacent_count lt d (a + (b0 - a) / 4 * 2) (medianAdjacent lt d (a + (b0 - a) / 4 * 1) 0).2
        have m2 := medianAdjacent_mem lt d (a + (b0 - a) / 4 * 2) (medianAdjacent lt d (a + (b0 - a) / 4 * 1) 0).2
        refine R.ev rfl (E.assign rfl) ?_
        refine R.done ?_
        refine X.keep [(0, _), (3, _), (11, _), (12, _), (13, _), (14, _)] ⟨rfl, rfl, rfl, rfl, rfl, rfl, trivial⟩ ?_
        refine X.next ?_
        refine C.region ?_
        refine R.ev rfl (E.move rfl) ?_
        refine R.ev rfl (E.move rfl) ?_
        refine R.ev rfl (E.move rfl) ?_
        refine R.call ⟨_, _, Tryz.func106, rfl, by kernel_rfl⟩ rfl rfl (hemadj_any hf (a + (b0 - a) / 4 * 3) hs hr (by omega) (by omega) hm (by omega)) ?_
        rintro _ w10 ⟨rfl, hs⟩
        have n3 := medianAdjacent_count lt d (a + (b0 - a) / 4 * 3) (medianAdjacent lt d (a + (b0 - a) / 4 * 2) (medianAdjacent lt d (a + (b0 - a) / 4 * 1) 0).2).2
        have m3 := medianAdjacent_mem lt d (a + (b0 - a) / 4 * 3) (medianAdjacent lt d (a + (b0 - a) / 4 * 2) (medianAdjacent lt d (a + (b0 - a) / 4 * 1) 0).2).2
        refine R.ev rfl (E.assign rfl) ?_
        refine R.done ?_
        refine X.keep [(0, _), (3, _), (11, _), (12, _), (13, _), (14, _)] ⟨rfl, rfl, rfl, rfl, rfl, rfl, trivial⟩ ?_
        refine X.next ?_
        refine C.region ?_
        refine R.ev rfl (E.move rfl) ?_
        refine R.ev rfl (E.move rfl) ?_
        refine R.ev rfl (E.move rfl) ?_
        refine R.ev rfl (E.move rfl) ?_
        refine R.ev rfl (E.move rfl) ?_
        refine R.call ⟨_, _, Tryz.func107, rfl, by kernel_rfl⟩ rfl rfl (hemed_any hf _ _ _ hs hr (by omega) (by omega) (by omega) (by omega)) ?_
        rintro _ w11 ⟨rfl, hs⟩
        refine R.ev rfl (E.assign rfl) ?_
        refine R.done ?_
        refine X.keep [(11, _), (13, _)] ⟨rfl, rfl, trivial⟩ ?_
        first
          | (rw [rawPivot, if_pos (show b0 - a ≥ 8 by omega), if_pos (show b0 - a ≥ 50 by omega)]; exact X.cut (()) ⟨lkV rfl rfl, rfl, trivial⟩ hs)
          | (rw [rawPivot, if_pos (show b0 - a ≥ 8 by omega), if_neg (show ¬ b0 - a ≥ 50 by omega)]; exact X.cut (()) ⟨lkV rfl rfl, rfl, trivial⟩ hs)
          | (rw [rawPivot, if_neg (show ¬ b0 - a ≥ 8 by omega)]; exact X.cut (()) ⟨lkV rfl rfl, rfl, trivial⟩ hs)
      · refine C.skip ?_
        refine X.next ?_
        refine C.region ?_
        refine R.ev rfl (E.move rfl) ?_
        refine R.ev rfl (E.move rfl) ?_
        refine R.ev rfl (E.move rfl) ?_
        refine R.ev rfl (E.move rfl) ?_
        refine R.ev rfl (E.move rfl) ?_
        refine R.call ⟨_, _, Tryz.func107, rfl, by kernel_rfl⟩ rfl rfl (hemed_any hf _ _ _ hs hr (by omega) (by omega) (by omega) (by omega)) ?_
        rintro _ w11 ⟨rfl, hs⟩
        refine R.ev rfl (E.assign rfl) ?_
        refine R.done ?_
        refine X.keep [(11, _), (13, _)] ⟨rfl, rfl, trivial⟩ ?_
        first
          | (rw [rawPivot, if_pos (show b0 - a ≥ 8 by omega), if_pos (show b0 - a ≥ 50 by omega)]; exact X.cut (()) ⟨lkV rfl rfl, rfl, trivial⟩ hs)
          | (rw [rawPivot, if_pos (show b0 - a ≥ 8 by omega), if_neg (show ¬ b0 - a ≥ 50 by omega)]; exact X.cut (()) ⟨lkV rfl rfl, rfl, trivial⟩ hs)
          | (rw [rawPivot, if_neg (show ¬ b0 - a ≥ 8 by omega)]; exact X.cut (()) ⟨lkV rfl rfl, rfl, trivial⟩ hs)
    · refine C.skip ?_
      first
        | (rw [rawPivot, if_pos (show b0 - a ≥ 8 by omega), if_pos (show b0 - a ≥ 50 by omega)]; exact X.cut (()) ⟨lkV rfl rfl, rfl, trivial⟩ hs)
        | (rw [rawPivot, if_pos (show b0 - a ≥ 8 by omega), if_neg (show ¬ b0 - a ≥ 50 by omega)]; exact X.cut (()) ⟨lkV rfl rfl, rfl, trivial⟩ hs)
        | (rw [rawPivot, if_neg (show ¬ b0 - a ≥ 8 by omega)]; exact X.cut (()) ⟨lkV rfl rfl, rfl, trivial⟩ hs)
  · rintro _ w6 hs
    refine X.keep [(11, _), (13, _)] ⟨rfl, rfl, trivial⟩ ?_
    refine X.next ?_
    refine C.seq ?_
    refine C.region ?_
    refine R.ev rfl (E.load1 rfl Tryz.underlying3 rfl (by first | exact hs.ldc | exact hs.ld rfl | exact hs.ld (by assumption) | exact by assumption | exact At.cellC (by assumption) | exact hs.ldK rfl)) ?_
    refine R.done ?_
    refine X.keep [(13, _), (55, _)] ⟨rfl, rfl, trivial⟩ ?_
    refine X.next ?_
    refine C.block ?_
    refine C.seq ?_
    refine C.region ?_
    refine R.ev rfl (E.eql rfl rfl) ?_
    refine R.ev rfl (E.assign rfl) ?_
    refine R.done ?_
    refine X.keep [(13, _), (55, _), (57, _)] ⟨rfl, rfl, rfl, trivial⟩ ?_
    refine X.next ?_
    refine C.cdec rfl (fun h57 => ?_) (fun h57 => ?_)
    · refine C.seq ?_
      refine C.region ?_
      refine R.ev rfl (E.move rfl) ?_
      refine R.ev rfl (E.assign rfl) ?_
      refine R.ev rfl (E.assign rfl) ?_
      refine R.done ?_
      refine X.keep [(8, _), (9, _)] ⟨rfl, rfl, trivial⟩ ?_
      refine X.next ?_
      refine C.ret ?_
      refine X.blockRet ?_
      refine X.ret2 rfl rfl rfl ?_
      have e : hintOf (rawPivot lt d a b0).2 = .increasing := by rw [hintOf, if_pos (by omega)]
      rw [choosePivot_eq, e]; exact ⟨rfl, hs.to⟩
    · refine C.seq ?_
      refine C.region ?_
      refine R.ev rfl (E.eql rfl rfl) ?_
      refine R.ev rfl (E.assign rfl) ?_
      refine R.done ?_
      refine X.keep [(13, _), (60, _)] ⟨rfl, rfl, trivial⟩ ?_
      refine X.next ?_
      refine C.cdec rfl (fun h60 => ?_) (fun h60 => ?_)
      · refine C.seq ?_
        refine C.region ?_
        refine R.ev rfl (E.move rfl) ?_
        refine R.ev rfl (E.assign rfl) ?_
        refine R.ev rfl (E.assign rfl) ?_
        refine R.done ?_
        refine X.keep [(8, _), (9, _)] ⟨rfl, rfl, trivial⟩ ?_
        refine X.next ?_
        refine C.ret ?_
        refine X.blockRet ?_
        refine X.ret2 rfl rfl rfl ?_
        have e : hintOf (rawPivot lt d a b0).2 = .decreasing := by rw [hintOf, if_neg (by omega), if_pos (by omega)]
        rw [choosePivot_eq, e]; exact ⟨rfl, hs.to⟩
      · refine C.seq ?_
        refine C.region ?_
        refine R.ev rfl (E.move rfl) ?_
        refine R.ev rfl (E.assign rfl) ?_
        refine R.ev rfl (E.assign rfl) ?_
        refine R.done ?_
        refine X.keep [(8, _), (9, _)] ⟨rfl, rfl, trivial⟩ ?_
        refine X.next ?_
        refine C.ret ?_
        refine X.blockRet ?_
        refine X.ret2 rfl rfl rfl ?_
        have e : hintOf (rawPivot lt d a b0).2 = .unknown := by rw [hintOf, if_neg (by omega), if_neg (by omega)]
        rw [choosePivot_eq, e]; exact ⟨rfl, hs.to⟩
end
end Go.Proofs.YtifghjeapfijkaaGreatDoor.Hist
