/-
  slices.SortFunc over entries.
-/
import Derived.Test.YtifghjeapfijkaaGreatDoorSortE
import Derived.Test.YtifghjeapfijkaaGreatDoorHis
namespace Go.Proofs.YtifghjeapfijkaaGreatDoor.Hist
open Go.Eng Go.RowKit

/-- the comparison of a sort -/
def heCmp (K : Kn) (Rs : List Hl) (fid : FuncId) (fst cps : List Value) (lt : HEnt → HEnt → Bool) : Prop := Callable Tryz.prog fid ∧ ∀ (x y : HEnt) (w1 : World) (Hs1 : List Hl), SubP Rs Hs1 → Sat K w1 Hs1 →
  Ret Tryz.prog fid (fst ++ [Value.agg (encH x).toArray, Value.agg (encH y).toArray] ++ cps).toArray w1 fun r w' => ∃ c : Int, r = .int .i64 c ∧ decide (c < 0) = lt x y ∧ Sat K w' Hs1
abbrev heA (b m c0 : Nat) (d : Array HEnt) (F : Hl) : Prop := Arr 50 encH 36 b m c0 d F
section
variable {K : Kn} {Rs : List Hl} {F : Hl} {w : World} {b m c0 : Nat} {d : Array HEnt} {lt : HEnt → HEnt → Bool} {fid : FuncId} {fst cps : List Value}
open Go.Sort
theorem heins_any (hf : heCmp K Rs fid fst cps lt) (a b0 : Nat) (hs : Sat K w (F :: Rs)) (hr : heA b m c0 d F) (ha : a ≤ m) (hb : b0 ≤ m) (hm : m ≤ 1000000000) :
    Ret Tryz.prog 87 #[.slice (some ⟨b, 0, none⟩) m c0, .int .i64 (a : Nat), .int .i64 (b0 : Nat), .func (.func fid) fst.toArray cps.toArray] w fun _ w' => ∃ F', heA b m c0 (insertionSort lt d a b0) F' ∧ Sat K w' (F' :: Rs) := by
  refine Ret.enter (n := 53) (args := [.slice (some ⟨b, 0, none⟩) m c0, .int .i64 (a : Nat), .int .i64 (b0 : Nat), .func (.func fid) fst.toArray cps.toArray]) Tryz.func87 rfl rfl ?_
  refine C.keep [(0, _), (1, _), (2, _), (3, _)] ⟨rfl, rfl, rfl, rfl, trivial⟩ ?_
  refine C.seq ?_
  refine C.region ?_
  refine R.ev rfl (E.move rfl) ?_
  refine R.ev rfl ((E.add rfl rfl (by omega) (by omega)).isI (c := ((a + 1 : Nat) : Int)) (by omega)) ?_
  refine R.ev rfl (E.assign rfl) ?_
  refine R.done ?_
  refine X.keep [(0, _), (1, _), (2, _), (3, _), (8, _)] ⟨rfl, rfl, rfl, rfl, rfl, trivial⟩ ?_
  refine X.next ?_
  refine C.block ?_
  refine C.loop (T := Nat × Array HEnt × Hl) [(0, _), (1, _), (2, _), (3, _)] (fun (i, _, _) => [(8, .int .i64 (i : Nat))]) (fun (i, d1, F1) w' => insOuter lt a b0 i d1 = insertionSort lt d a b0 ∧ a + 1 ≤ i ∧ i ≤ m + 1 ∧ heA b m c0 d1 F1 ∧ Sat K w' (F1 :: Rs)) (fun (i, _) => b0 - i) ((a + 1, d, F)) ⟨rfl, rfl, rfl, rfl, rfl, trivial⟩ ⟨rfl, by omega, by omega, hr, hs⟩ ?_
  rintro ⟨i, d1, F1⟩ w1 ⟨he, hai, hi2, r1, hs⟩
  refine C.keep [(0, _), (1, _), (2, _), (3, _), (8, _)] ⟨rfl, rfl, rfl, rfl, rfl, trivial⟩ ?_
  refine C.seq ?_
  refine C.seq ?_
  refine C.region ?_
  refine R.ev rfl (E.move rfl) ?_
  refine R.ev rfl (E.move rfl) ?_
  refine R.ev rfl (E.lss rfl rfl) ?_
  refine R.done ?_
  refine X.keep [(0, _), (1, _), (2, _), (3, _), (8, _), (14, _)] ⟨rfl, rfl, rfl, rfl, rfl, rfl, trivial⟩ ?_
  refine X.next ?_
  refine C.cdec rfl (fun h14 => ?_) (fun h14 => ?_)
  · rw [insOuter_go (by omega)] at he
    refine C.skip ?_
    refine X.next ?_
    refine C.seq ?_
    refine C.block ?_
    refine C.seq ?_
    refine C.region ?_
    refine R.ev rfl (E.move rfl) ?_
    refine R.ev rfl (E.assign rfl) ?_
    refine R.done ?_
    refine X.keep [(0, _), (1, _), (2, _), (3, _), (8, _), (9, _)] ⟨rfl, rfl, rfl, rfl, rfl, rfl, trivial⟩ ?_
    refine X.next ?_
    refine C.block ?_
    refine C.loop (T := Nat × Array HEnt × Hl) [(0, _), (1, _), (2, _), (3, _), (8, _)] (fun (j, _, _) => [(9, .int .i64 (j : Nat))]) (fun (j, d2, F2) w' => insInner lt a j d2 = insInner lt a i d1 ∧ j ≤ i ∧ heA b m c0 d2 F2 ∧ Sat K w' (F2 :: Rs)) (fun (j, _) => j) ((i, d1, F1)) ⟨rfl, rfl, rfl, rfl, rfl, rfl, trivial⟩ ⟨rfl, by omega, r1, hs⟩ ?_
    rintro ⟨j, d2, F2⟩ w2 ⟨hj, hji, r2, hs⟩
    refine C.keep [(0, _), (1, _), (2, _), (3, _), (8, _), (9, _)] ⟨rfl, rfl, rfl, rfl, rfl, rfl, trivial⟩ ?_
    refine C.seq ?_
    refine C.seq ?_
    refine C.drawn (SatS hs) ([8, 13], [0, 1, 2, 3, 4, 5, 6, 7, 9, 10, 11, 12, 15, 16]) (by kernel_rfl) ?_
    have hs := hs.drew
    refine D.evP 0 rfl (by kernel_rfl) rfl (fun _ => hs.to) (fun _ => E.move rfl) ?_
    refine D.evP 1 rfl (by kernel_rfl) rfl (fun _ => hs.to) (fun _ => E.move rfl) ?_
    refine D.evP 2 rfl (by kernel_rfl) rfl (fun _ => hs.to) (fun _ => E.gtr rfl rfl) ?_
    refine D.evP 3 rfl (by kernel_rfl) rfl (fun _ => hs.to) (fun _ => E.move rfl) ?_
    refine D.split 21 rfl (fun h21 => ?_) (fun h21 => ?_)
    · have hja : a < j := by have := of_decide_eq_true h21; omega
      have A1 := r2.el (K := K) (Hs := F2 :: Rs) (i := j) (by omega)
      have A2 := r2.el (K := K) (Hs := F2 :: Rs) (i := j - 1) (by omega)
      refine D.evPG 4 rfl (by kernel_rfl) rfl rfl rfl (fun _ => hs.to) (fun _ => E.move rfl) ?_
      refine D.evPG 5 rfl (by kernel_rfl) rfl rfl rfl (fun _ => hs.to) (fun _ => E.move rfl) ?_
      refine D.evPG 6 rfl (by kernel_rfl) rfl rfl rfl (fun _ => hs.to) (fun _ => E.move rfl) ?_
      refine D.evPG 7 rfl (by kernel_rfl) rfl rfl rfl (fun _ => hs.to) (fun _ => E.indexAddr rfl rfl Tryz.underlying88 Tryz.sz50 rfl (by first | omega | decide)) ?_
      refine D.evPG 9 rfl (by kernel_rfl) rfl rfl rfl (fun _ => hs.to) (fun _ => E.move rfl) ?_
      refine D.evPG 10 rfl (by kernel_rfl) rfl rfl rfl (fun _ => hs.to) (fun _ => E.move rfl) ?_
      refine D.evPG 11 rfl (by kernel_rfl) rfl rfl rfl (fun _ => hs.to) (fun _ => (E.sub rfl rfl (by omega) (by omega)).isI (c := ((j - 1 : Nat) : Int)) (by omega)) ?_
      refine D.evPG 12 rfl (by kernel_rfl) rfl rfl rfl (fun _ => hs.to) (fun _ => E.indexAddr rfl rfl Tryz.underlying88 Tryz.sz50 rfl (by first | omega | decide)) ?_
      refine D.evG 8 rfl (by kernel_rfl) rfl rfl rfl hs.to (fun _ hS => E.loadRowC rfl Tryz.underlying50 rfl Tryz.sz50 ⟨A1 _ hS, Enc.len _⟩) ?_
      refine D.evG 13 rfl (by kernel_rfl) rfl rfl rfl hs.to (fun _ hS => E.loadRowC rfl Tryz.underlying50 rfl Tryz.sz50 ⟨A2 _ hS, Enc.len _⟩) ?_
      refine D.act 14 rfl (by kernel_rfl) ?_
      refine R.gyes rfl rfl ?_
      refine R.callV hf.1 rfl rfl rfl (hf.2 _ _ _ _ inferInstance hs) ?_
      rintro _ w4 ⟨cc4, rfl, hcc4, hs⟩
      refine D.backT (by kernel_rfl) ?_
      refine D.evPG 15 rfl (by kernel_rfl) rfl rfl rfl (np (by kernel_rfl)) (fun _ => (E.lss rfl rfl).isB (c := lt d2[j]! d2[j - 1]!) hcc4) ?_
      refine D.evP 16 rfl (by kernel_rfl) rfl (np (by kernel_rfl)) (fun _ => E.pickT rfl rfl) ?_
      refine D.done rfl (by kernel_rfl) ?_
      refine X.keep [(0, _), (1, _), (2, _), (3, _), (8, _), (9, _), (34, _)] ⟨rfl, rfl, rfl, rfl, rfl, rfl, rfl, trivial⟩ ?_
      refine X.next ?_
      refine C.cbool rfl (fun h34 => ?_) (fun h34 => ?_)
      · refine C.skip ?_
        refine X.next ?_
        refine C.seq ?_
        refine C.block ?_
        refine C.drawn (SatS hs) ([9, 13], [0, 1, 2, 3, 4, 5, 6, 7, 8, 10, 11, 12, 14, 16]) (by kernel_rfl) ?_
        have hs := hs.drew
        refine D.evP 0 rfl (by kernel_rfl) rfl (fun _ => hs.to) (fun _ => E.move rfl) ?_
        refine D.evP 1 rfl (by kernel_rfl) rfl (fun _ => hs.to) (fun _ => E.move rfl) ?_
        refine D.evP 2 rfl (by kernel_rfl) rfl (fun _ => hs.to) (fun _ => E.move rfl) ?_
        refine D.evP 3 rfl (by kernel_rfl) rfl (fun _ => hs.to) (fun _ => E.move rfl) ?_
        refine D.evP 4 rfl (by kernel_rfl) rfl (fun _ => hs.to) (fun _ => (E.sub rfl rfl (by omega) (by omega)).isI (c := ((j - 1 : Nat) : Int)) (by omega)) ?_
        refine D.evP 5 rfl (by kernel_rfl) rfl (fun _ => hs.to) (fun _ => E.move rfl) ?_
        refine D.evP 6 rfl (by kernel_rfl) rfl (fun _ => hs.to) (fun _ => E.move rfl) ?_
        refine D.evP 7 rfl (by kernel_rfl) rfl (fun _ => hs.to) (fun _ => (E.sub rfl rfl (by omega) (by omega)).isI (c := ((j - 1 : Nat) : Int)) (by omega)) ?_
        refine D.evP 8 rfl (by kernel_rfl) rfl (fun _ => hs.to) (fun _ => E.indexAddr rfl rfl Tryz.underlying88 Tryz.sz50 rfl (by first | omega | decide)) ?_
        refine D.evP 10 rfl (by kernel_rfl) rfl (fun _ => hs.to) (fun _ => E.move rfl) ?_
        refine D.evP 11 rfl (by kernel_rfl) rfl (fun _ => hs.to) (fun _ => E.move rfl) ?_
        refine D.evP 12 rfl (by kernel_rfl) rfl (fun _ => hs.to) (fun _ => E.indexAddr rfl rfl Tryz.underlying88 Tryz.sz50 rfl (by first | omega | decide)) ?_
        refine D.ev 9 rfl (by kernel_rfl) rfl hs.to (fun _ hS => E.loadRowC rfl Tryz.underlying50 rfl Tryz.sz50 ⟨A2 _ hS, Enc.len _⟩) ?_
        refine D.ev 13 rfl (by kernel_rfl) rfl hs.to (fun _ hS => E.loadRowC rfl Tryz.underlying50 rfl Tryz.sz50 ⟨A1 _ hS, Enc.len _⟩) ?_
        refine D.evP 14 rfl (by kernel_rfl) rfl (fun _ => hs.to) (fun _ => E.indexAddr rfl rfl Tryz.underlying88 Tryz.sz50 rfl (by first | omega | decide)) ?_
        refine D.act 15 rfl (by kernel_rfl) ?_
        refine R.dset (j) hs (r2) rfl rfl Tryz.sz50 (by omega) ?_
        intro w6a F6a r6a hs
        refine D.backT (by kernel_rfl) ?_
        refine D.evP 16 rfl (by kernel_rfl) rfl (np (by kernel_rfl)) (fun _ => E.indexAddr rfl rfl Tryz.underlying88 Tryz.sz50 rfl (by first | omega | decide)) ?_
        refine D.act 17 rfl (by kernel_rfl) ?_
        refine R.dset (j - 1) hs r6a rfl rfl Tryz.sz50 (by omega) ?_
        intro w6 F6 r6 hs
        refine D.backT (by kernel_rfl) ?_
        refine D.done rfl (by kernel_rfl) ?_
        refine X.keep [(0, _), (1, _), (2, _), (3, _), (8, _), (9, _)] ⟨rfl, rfl, rfl, rfl, rfl, rfl, trivial⟩ ?_
        refine X.blockNormal ?_
        refine X.next ?_
        refine C.region ?_
        refine R.ev rfl (E.move rfl) ?_
        refine R.ev rfl ((E.sub rfl rfl (by omega) (by omega)).isI (c := ((j - 1 : Nat) : Int)) (by omega)) ?_
        refine R.ev rfl (E.assign rfl) ?_
        refine R.done ?_
        refine X.keep [(0, _), (1, _), (2, _), (3, _), (8, _), (9, _)] ⟨rfl, rfl, rfl, rfl, rfl, rfl, trivial⟩ ?_
        exact X.again (j - 1, _, F6) ⟨rfl, rfl, rfl, rfl, rfl, rfl, trivial⟩ ⟨by rw [← hj, insInner_go hja h34]; rfl, by omega, r6, hs⟩ (by show j - 1 < j; omega)
      · refine C.exit ?_
        refine X.thenExit ?_
        refine X.loopExit ?_
        refine X.blockExit ?_
        refine X.blockNormal ?_
        refine X.next ?_
        refine C.region ?_
        refine R.ev rfl (E.move rfl) ?_
        refine R.ev rfl ((E.add rfl rfl (by omega) (by omega)).isI (c := ((i + 1 : Nat) : Int)) (by omega)) ?_
        refine R.ev rfl (E.assign rfl) ?_
        refine R.done ?_
        refine X.keep [(0, _), (1, _), (2, _), (3, _), (8, _)] ⟨rfl, rfl, rfl, rfl, rfl, trivial⟩ ?_
        have hno : ¬ (a < j ∧ lt d2[j]! d2[j - 1]! = true) := by
          first
            | (intro hh; rw [h34] at hh; exact Bool.noConfusion hh.2)
            | (have := of_decide_eq_false h21; omega)
        exact X.again (i + 1, d2, F2) ⟨rfl, rfl, rfl, rfl, rfl, trivial⟩ ⟨by rw [← he, ← hj, insInner_stop hno], by omega, by omega, r2, hs⟩ (by show _ - _ < _ - _; omega)
    · refine D.skipP 4 rfl (by kernel_rfl) rfl rfl rfl (fun _ => hs.to) ?_
      refine D.skipP 5 rfl (by kernel_rfl) rfl rfl rfl (fun _ => hs.to) ?_
      refine D.skipP 6 rfl (by kernel_rfl) rfl rfl rfl (fun _ => hs.to) ?_
      refine D.skipP 7 rfl (by kernel_rfl) rfl rfl rfl (fun _ => hs.to) ?_
      refine D.skipP 9 rfl (by kernel_rfl) rfl rfl rfl (fun _ => hs.to) ?_
      refine D.skipP 10 rfl (by kernel_rfl) rfl rfl rfl (fun _ => hs.to) ?_
      refine D.skipP 11 rfl (by kernel_rfl) rfl rfl rfl (fun _ => hs.to) ?_
      refine D.skipP 12 rfl (by kernel_rfl) rfl rfl rfl (fun _ => hs.to) ?_
      refine D.skip 8 rfl (by kernel_rfl) rfl rfl rfl hs.to ?_
      refine D.skip 13 rfl (by kernel_rfl) rfl rfl rfl hs.to ?_
      refine D.act 14 rfl (by kernel_rfl) ?_
      refine R.gskip rfl rfl rfl ?_
      refine D.backT (by kernel_rfl) ?_
      refine D.skipP 15 rfl (by kernel_rfl) rfl rfl rfl (np (by kernel_rfl)) ?_
      refine D.evP 16 rfl (by kernel_rfl) rfl (np (by kernel_rfl)) (fun _ => E.pickF rfl rfl) ?_
      refine D.done rfl (by kernel_rfl) ?_
      refine X.keep [(0, _), (1, _), (2, _), (3, _), (8, _), (9, _), (34, _)] ⟨rfl, rfl, rfl, rfl, rfl, rfl, rfl, trivial⟩ ?_
      refine X.next ?_
      refine C.cfalse rfl ?_
      refine C.exit ?_
      refine X.thenExit ?_
      refine X.loopExit ?_
      refine X.blockExit ?_
      refine X.blockNormal ?_
      refine X.next ?_
      refine C.region ?_
      refine R.ev rfl (E.move rfl) ?_
      refine R.ev rfl ((E.add rfl rfl (by omega) (by omega)).isI (c := ((i + 1 : Nat) : Int)) (by omega)) ?_
      refine R.ev rfl (E.assign rfl) ?_
      refine R.done ?_
      refine X.keep [(0, _), (1, _), (2, _), (3, _), (8, _)] ⟨rfl, rfl, rfl, rfl, rfl, trivial⟩ ?_
      have hno : ¬ (a < j ∧ lt d2[j]! d2[j - 1]! = true) := by
        first
          | (intro hh; rw [h34] at hh; exact Bool.noConfusion hh.2)
          | (have := of_decide_eq_false h21; omega)
      exact X.again (i + 1, d2, F2) ⟨rfl, rfl, rfl, rfl, rfl, trivial⟩ ⟨by rw [← he, ← hj, insInner_stop hno], by omega, by omega, r2, hs⟩ (by show _ - _ < _ - _; omega)
  · refine C.exit ?_
    refine X.thenExit ?_
    refine X.loopExit ?_
    refine X.blockExit ?_
    refine X.bodyNormal ?_
    refine X.ret0 rfl ?_
    exact ⟨F1, by rw [← he, insOuter_stop (by omega)]; exact r1, hs⟩
theorem hesift_any (hf : heCmp K Rs fid fst cps lt) (lo hi first : Nat) (hs : Sat K w (F :: Rs)) (hr : heA b m c0 d F) (hlo : lo ≤ m) (hb : first + hi ≤ m) (hm : m ≤ 1000000000) :
    Ret Tryz.prog 103 #[.slice (some ⟨b, 0, none⟩) m c0, .int .i64 (lo : Nat), .int .i64 (hi : Nat), .int .i64 (first : Nat), .func (.func fid) fst.toArray cps.toArray] w fun _ w' => ∃ F', heA b m c0 (siftDown lt hi first lo d) F' ∧ Sat K w' (F' :: Rs) := by
  refine Ret.enter (n := 82) (args := [.slice (some ⟨b, 0, none⟩) m c0, .int .i64 (lo : Nat), .int .i64 (hi : Nat), .int .i64 (first : Nat), .func (.func fid) fst.toArray cps.toArray]) Tryz.func103 rfl rfl ?_
  refine C.keep [(0, _), (1, _), (2, _), (3, _), (4, _)] ⟨rfl, rfl, rfl, rfl, rfl, trivial⟩ ?_
  refine C.seq ?_
  refine C.region ?_
  refine R.ev rfl (E.move rfl) ?_
  refine R.ev rfl (E.assign rfl) ?_
  refine R.done ?_
  refine X.keep [(0, _), (2, _), (3, _), (4, _), (10, _)] ⟨rfl, rfl, rfl, rfl, rfl, trivial⟩ ?_
  refine X.next ?_
  refine C.block ?_
  refine C.loop (T := Nat × Array HEnt × Hl) [(0, _), (2, _), (3, _), (4, _)] (fun (r, _, _) => [(10, .int .i64 (r : Nat))]) (fun (r, d1, F1) w' => siftDown lt hi first r d1 = siftDown lt hi first lo d ∧ r ≤ m ∧ heA b m c0 d1 F1 ∧ Sat K w' (F1 :: Rs)) (fun (r, _) => hi - r) ((lo, d, F)) ⟨rfl, rfl, rfl, rfl, rfl, trivial⟩ ⟨rfl, hlo, hr, hs⟩ ?_
  rintro ⟨r, d1, F1⟩ w1 ⟨he, hrm, r1, hs⟩
  refine C.keep [(0, _), (2, _), (3, _), (4, _), (10, _)] ⟨rfl, rfl, rfl, rfl, rfl, trivial⟩ ?_
  refine C.block ?_
  refine C.seq ?_
  refine C.region ?_
  refine R.ev rfl (E.move rfl) ?_
  refine R.ev rfl ((E.mul rfl rfl (by omega) (by omega)).isI (c := ((2 * r : Nat) : Int)) (by omega)) ?_
  refine R.ev rfl ((E.add rfl rfl (by omega) (by omega)).isI (c := ((2 * r + 1 : Nat) : Int)) (by omega)) ?_
  refine R.ev rfl (E.assign rfl) ?_
  refine R.done ?_
  refine X.keep [(0, _), (2, _), (3, _), (4, _), (10, _), (11, _)] ⟨rfl, rfl, rfl, rfl, rfl, rfl, trivial⟩ ?_
  refine X.next ?_
  refine C.seq ?_
  refine C.seq ?_
  refine C.region ?_
  refine R.ev rfl (E.move rfl) ?_
  refine R.ev rfl (E.move rfl) ?_
  refine R.ev rfl (E.geq rfl rfl) ?_
  refine R.done ?_
  refine X.keep [(0, _), (2, _), (3, _), (4, _), (10, _), (11, _), (18, _)] ⟨rfl, rfl, rfl, rfl, rfl, rfl, rfl, trivial⟩ ?_
  refine X.next ?_
  refine C.cdec rfl (fun h18 => ?_) (fun h18 => ?_)
  · refine C.exit ?_
    refine X.thenExit ?_
    refine X.blockOther rfl ?_
    refine X.loopExit ?_
    refine X.blockExit ?_
    refine X.bodyNormal ?_
    refine X.ret0 rfl ?_
    first
      | exact ⟨F1, by rw [← he, hst (by simpa using h58)]; exact r1, hs⟩
      | exact ⟨F1, by rw [← he, sift_end (by omega)]; exact r1, hs⟩
  · have h18' : ¬ 2 * r + 1 ≥ hi := by omega
    refine C.skip ?_
    refine X.next ?_
    refine C.seq ?_
    refine C.seq ?_
    refine C.cut [(0, _), (2, _), (3, _), (4, _), (10, _), (11, _)] (fun (_ : Unit) => [(40, .bool (decide (((2 * r + 1 + 1 : Nat) : Int) < ((hi : Nat) : Int)) && lt d1[first + (2 * r + 1)]! d1[first + (2 * r + 1) + 1]!))]) (fun _ w' => Sat K w' (F1 :: Rs)) ⟨rfl, rfl, rfl, rfl, rfl, rfl, trivial⟩ ?_ ?_
    · refine C.drawn (SatS hs) ([11, 18], [0, 1, 2, 3, 4, 5, 6, 7, 8, 9, 10, 12, 13, 14, 15, 16, 17, 20, 21]) (by kernel_rfl) ?_
      have hs := hs.drew
      refine D.evP 0 rfl (by kernel_rfl) rfl (fun _ => hs.to) (fun _ => E.move rfl) ?_
      refine D.evP 1 rfl (by kernel_rfl) rfl (fun _ => hs.to) (fun _ => (E.add rfl rfl (by omega) (by omega)).isI (c := ((2 * r + 1 + 1 : Nat) : Int)) (by omega)) ?_
      refine D.evP 2 rfl (by kernel_rfl) rfl (fun _ => hs.to) (fun _ => E.move rfl) ?_
      refine D.evP 3 rfl (by kernel_rfl) rfl (fun _ => hs.to) (fun _ => E.lss rfl rfl) ?_
      refine D.evP 4 rfl (by kernel_rfl) rfl (fun _ => hs.to) (fun _ => E.move rfl) ?_
      refine D.split 23 rfl (fun h23 => ?_) (fun h23 => ?_)
      · have h23' := of_decide_eq_true h23
        have A1 := r1.el (K := K) (Hs := F1 :: Rs) (i := first + (2 * r + 1)) (by omega)
        have A2 := r1.el (K := K) (Hs := F1 :: Rs) (i := first + (2 * r + 1) + 1) (by omega)
        refine D.evPG 5 rfl (by kernel_rfl) rfl rfl rfl (fun _ => hs.to) (fun _ => E.move rfl) ?_
        refine D.evPG 6 rfl (by kernel_rfl) rfl rfl rfl (fun _ => hs.to) (fun _ => E.move rfl) ?_
        refine D.evPG 7 rfl (by kernel_rfl) rfl rfl rfl (fun _ => hs.to) (fun _ => E.move rfl) ?_
        refine D.evPG 8 rfl (by kernel_rfl) rfl rfl rfl (fun _ => hs.to) (fun _ => E.move rfl) ?_
        refine D.evPG 9 rfl (by kernel_rfl) rfl rfl rfl (fun _ => hs.to) (fun _ => (E.add rfl rfl (by omega) (by omega)).isI (c := ((first + (2 * r + 1) : Nat) : Int)) (by omega)) ?_
        refine D.evPG 10 rfl (by kernel_rfl) rfl rfl rfl (fun _ => hs.to) (fun _ => E.indexAddr rfl rfl Tryz.underlying88 Tryz.sz50 rfl (by first | omega | decide)) ?_
        refine D.evPG 12 rfl (by kernel_rfl) rfl rfl rfl (fun _ => hs.to) (fun _ => E.move rfl) ?_
        refine D.evPG 13 rfl (by kernel_rfl) rfl rfl rfl (fun _ => hs.to) (fun _ => E.move rfl) ?_
        refine D.evPG 14 rfl (by kernel_rfl) rfl rfl rfl (fun _ => hs.to) (fun _ => E.move rfl) ?_
        refine D.evPG 15 rfl (by kernel_rfl) rfl rfl rfl (fun _ => hs.to) (fun _ => (E.add rfl rfl (by omega) (by omega)).isI (c := ((first + (2 * r + 1) : Nat) : Int)) (by omega)) ?_
        refine D.evPG 16 rfl (by kernel_rfl) rfl rfl rfl (fun _ => hs.to) (fun _ => (E.add rfl rfl (by omega) (by omega)).isI (c := ((first + (2 * r + 1) + 1 : Nat) : Int)) (by omega)) ?_
        refine D.evPG 17 rfl (by kernel_rfl) rfl rfl rfl (fun _ => hs.to) (fun _ => E.indexAddr rfl rfl Tryz.underlying88 Tryz.sz50 rfl (by first | omega | decide)) ?_
        refine D.evG 11 rfl (by kernel_rfl) rfl rfl rfl hs.to (fun _ hS => E.loadRowC rfl Tryz.underlying50 rfl Tryz.sz50 ⟨A1 _ hS, Enc.len _⟩) ?_
        refine D.evG 18 rfl (by kernel_rfl) rfl rfl rfl hs.to (fun _ hS => E.loadRowC rfl Tryz.underlying50 rfl Tryz.sz50 ⟨A2 _ hS, Enc.len _⟩) ?_
        refine D.act 19 rfl (by kernel_rfl) ?_
        refine R.gyes rfl rfl ?_
        refine R.callV hf.1 rfl rfl rfl (hf.2 _ _ _ _ inferInstance hs) ?_
        rintro _ w3 ⟨cc3, rfl, hcc3, hs⟩
        refine D.backT (by kernel_rfl) ?_
        refine D.evPG 20 rfl (by kernel_rfl) rfl rfl rfl (np (by kernel_rfl)) (fun _ => (E.lss rfl rfl).isB (c := lt d1[first + (2 * r + 1)]! d1[first + (2 * r + 1) + 1]!) hcc3) ?_
        refine D.evP 21 rfl (by kernel_rfl) rfl (np (by kernel_rfl)) (fun _ => E.pickT rfl rfl) ?_
        refine D.done rfl (by kernel_rfl) ?_
        refine X.keep [(0, _), (2, _), (3, _), (4, _), (10, _), (11, _), (40, _)] ⟨rfl, rfl, rfl, rfl, rfl, rfl, rfl, trivial⟩ ?_
        refine X.cut (()) ⟨lkV rfl ?_, rfl, rfl, rfl, rfl, rfl, rfl, trivial⟩ ?_
        · first | exact gT h23 | exact gF h23
        exact hs
      · refine D.skipP 5 rfl (by kernel_rfl) rfl rfl rfl (fun _ => hs.to) ?_
        refine D.skipP 6 rfl (by kernel_rfl) rfl rfl rfl (fun _ => hs.to) ?_
        refine D.skipP 7 rfl (by kernel_rfl) rfl rfl rfl (fun _ => hs.to) ?_
        refine D.skipP 8 rfl (by kernel_rfl) rfl rfl rfl (fun _ => hs.to) ?_
        refine D.skipP 9 rfl (by kernel_rfl) rfl rfl rfl (fun _ => hs.to) ?_
        refine D.skipP 10 rfl (by kernel_rfl) rfl rfl rfl (fun _ => hs.to) ?_
        refine D.skipP 12 rfl (by kernel_rfl) rfl rfl rfl (fun _ => hs.to) ?_
        refine D.skipP 13 rfl (by kernel_rfl) rfl rfl rfl (fun _ => hs.to) ?_
        refine D.skipP 14 rfl (by kernel_rfl) rfl rfl rfl (fun _ => hs.to) ?_
        refine D.skipP 15 rfl (by kernel_rfl) rfl rfl rfl (fun _ => hs.to) ?_
        refine D.skipP 16 rfl (by kernel_rfl) rfl rfl rfl (fun _ => hs.to) ?_
        refine D.skipP 17 rfl (by kernel_rfl) rfl rfl rfl (fun _ => hs.to) ?_
        refine D.skip 11 rfl (by kernel_rfl) rfl rfl rfl hs.to ?_
        refine D.skip 18 rfl (by kernel_rfl) rfl rfl rfl hs.to ?_
        refine D.act 19 rfl (by kernel_rfl) ?_
        refine R.gskip rfl rfl rfl ?_
        refine D.backT (by kernel_rfl) ?_
        refine D.skipP 20 rfl (by kernel_rfl) rfl rfl rfl (np (by kernel_rfl)) ?_
        refine D.evP 21 rfl (by kernel_rfl) rfl (np (by kernel_rfl)) (fun _ => E.pickF rfl rfl) ?_
        refine D.done rfl (by kernel_rfl) ?_
        refine X.keep [(0, _), (2, _), (3, _), (4, _), (10, _), (11, _), (40, _)] ⟨rfl, rfl, rfl, rfl, rfl, rfl, rfl, trivial⟩ ?_
        refine X.cut (()) ⟨lkV rfl ?_, rfl, rfl, rfl, rfl, rfl, rfl, trivial⟩ ?_
        · first | exact gT h23 | exact gF h23
        exact hs
    · rintro _ w3 hs
      refine X.keep [(0, _), (2, _), (3, _), (4, _), (10, _), (11, _), (40, _)] ⟨rfl, rfl, rfl, rfl, rfl, rfl, rfl, trivial⟩ ?_
      refine X.next ?_
      refine C.cut [(0, _), (2, _), (3, _), (4, _), (10, _)] (fun (_ : Unit) => [(11, .int .i64 ((child lt hi first r d1 : Nat) : Int))]) (fun _ w' => Sat K w' (F1 :: Rs)) ⟨rfl, rfl, rfl, rfl, rfl, trivial⟩ ?_ ?_
      · refine C.cbool rfl (fun h40 => ?_) (fun h40 => ?_)
        · refine C.region ?_
          refine R.ev rfl (E.move rfl) ?_
          refine R.ev rfl ((E.add rfl rfl (by omega) (by omega)).isI (c := ((2 * r + 1 + 1 : Nat) : Int)) (by omega)) ?_
          refine R.ev rfl (E.assign rfl) ?_
          refine R.done ?_
          refine X.keep [(0, _), (2, _), (3, _), (4, _), (10, _), (11, _)] ⟨rfl, rfl, rfl, rfl, rfl, rfl, trivial⟩ ?_
          refine X.cut (()) ⟨lkV rfl ?_, rfl, rfl, rfl, rfl, rfl, trivial⟩ ?_
          · first
              | (have := and_T h40; rw [child, if_pos (by simp only [Bool.and_eq_true, decide_eq_true_eq]; exact ⟨by omega, this.2⟩)])
              | (have := and_F h40; rw [child, if_neg (by simp only [Bool.and_eq_true, decide_eq_true_eq]; exact fun hh => this ⟨by omega, hh.2⟩)])
          exact hs
        · refine C.skip ?_
          refine X.cut (()) ⟨lkV rfl ?_, rfl, rfl, rfl, rfl, rfl, trivial⟩ ?_
          · first
              | (have := and_T h40; rw [child, if_pos (by simp only [Bool.and_eq_true, decide_eq_true_eq]; exact ⟨by omega, this.2⟩)])
              | (have := and_F h40; rw [child, if_neg (by simp only [Bool.and_eq_true, decide_eq_true_eq]; exact fun hh => this ⟨by omega, hh.2⟩)])
          exact hs
      · rintro _ w4 hs
        refine X.keep [(0, _), (2, _), (3, _), (4, _), (10, _), (11, _)] ⟨rfl, rfl, rfl, rfl, rfl, rfl, trivial⟩ ?_
        refine X.next ?_
        refine C.seq ?_
        refine C.seq ?_
        refine C.drawn (SatS hs) ([6, 12], [0, 1, 2, 3, 4, 5, 7, 8, 9, 10, 11, 14, 15]) (by kernel_rfl) ?_
        have hs := hs.drew
        have hcl := child_lt (lt := lt) (d := d1) (first := first) h18'
        have hcg : r < child lt hi first r d1 := by unfold child; split <;> omega
        have hgo := sift_go (lt := lt) (d := d1) (first := first) h18'
        have hst := sift_stop (lt := lt) (d := d1) (first := first) h18'
        generalize child lt hi first r d1 = ch at hcl hcg hgo hst
        have A3 := r1.el (K := K) (Hs := F1 :: Rs) (i := first + r) (by omega)
        have A4 := r1.el (K := K) (Hs := F1 :: Rs) (i := first + ch) (by omega)
        refine D.evP 0 rfl (by kernel_rfl) rfl (fun _ => hs.to) (fun _ => E.move rfl) ?_
        refine D.evP 1 rfl (by kernel_rfl) rfl (fun _ => hs.to) (fun _ => E.move rfl) ?_
        refine D.evP 2 rfl (by kernel_rfl) rfl (fun _ => hs.to) (fun _ => E.move rfl) ?_
        refine D.evP 3 rfl (by kernel_rfl) rfl (fun _ => hs.to) (fun _ => E.move rfl) ?_
        refine D.evP 4 rfl (by kernel_rfl) rfl (fun _ => hs.to) (fun _ => (E.add rfl rfl (by omega) (by omega)).isI (c := ((first + r : Nat) : Int)) (by omega)) ?_
        refine D.evP 5 rfl (by kernel_rfl) rfl (fun _ => hs.to) (fun _ => E.indexAddr rfl rfl Tryz.underlying88 Tryz.sz50 rfl (by first | omega | decide)) ?_
        refine D.evP 7 rfl (by kernel_rfl) rfl (fun _ => hs.to) (fun _ => E.move rfl) ?_
        refine D.evP 8 rfl (by kernel_rfl) rfl (fun _ => hs.to) (fun _ => E.move rfl) ?_
        refine D.evP 9 rfl (by kernel_rfl) rfl (fun _ => hs.to) (fun _ => E.move rfl) ?_
        refine D.evP 10 rfl (by kernel_rfl) rfl (fun _ => hs.to) (fun _ => (E.add rfl rfl (by omega) (by omega)).isI (c := ((first + ch : Nat) : Int)) (by omega)) ?_
        refine D.evP 11 rfl (by kernel_rfl) rfl (fun _ => hs.to) (fun _ => E.indexAddr rfl rfl Tryz.underlying88 Tryz.sz50 rfl (by first | omega | decide)) ?_
        refine D.ev 6 rfl (by kernel_rfl) rfl hs.to (fun _ hS => E.loadRowC rfl Tryz.underlying50 rfl Tryz.sz50 ⟨A3 _ hS, Enc.len _⟩) ?_
        refine D.ev 12 rfl (by kernel_rfl) rfl hs.to (fun _ hS => E.loadRowC rfl Tryz.underlying50 rfl Tryz.sz50 ⟨A4 _ hS, Enc.len _⟩) ?_
        refine D.act 13 rfl (by kernel_rfl) ?_
        refine R.callV hf.1 rfl rfl rfl (hf.2 _ _ _ _ inferInstance hs) ?_
        rintro _ w5 ⟨cc5, rfl, hcc5, hs⟩
        refine D.backT (by kernel_rfl) ?_
        refine D.evP 14 rfl (by kernel_rfl) rfl (np (by kernel_rfl)) (fun _ => (E.lss rfl rfl).isB (c := lt d1[first + r]! d1[first + ch]!) hcc5) ?_
        refine D.evP 15 rfl (by kernel_rfl) rfl (np (by kernel_rfl)) (fun _ => (E.not rfl).isB (c := !(lt d1[first + r]! d1[first + ch]!)) rfl) ?_
        refine D.done rfl (by kernel_rfl) ?_
        refine X.keep [(0, _), (2, _), (3, _), (4, _), (10, _), (11, _), (58, _)] ⟨rfl, rfl, rfl, rfl, rfl, rfl, rfl, trivial⟩ ?_
        refine X.next ?_
        refine C.cbool rfl (fun h58 => ?_) (fun h58 => ?_)
        · refine C.ret ?_
          refine X.thenRet ?_
          refine X.blockRet ?_
          refine X.loopRet ?_
          refine X.blockRet ?_
          refine X.ret0 rfl ?_
          first
            | exact ⟨F1, by rw [← he, hst (by simpa using h58)]; exact r1, hs⟩
            | exact ⟨F1, by rw [← he, sift_end (by omega)]; exact r1, hs⟩
        · refine C.skip ?_
          refine X.next ?_
          refine C.seq ?_
          refine C.drawn (SatS hs) ([13, 19], [0, 1, 2, 3, 4, 5, 6, 7, 8, 9, 10, 11, 12, 14, 15, 16, 17, 18, 20, 22]) (by kernel_rfl) ?_
          have hs := hs.drew
          have A1 := A3
          have A2 := A4
          refine D.evP 0 rfl (by kernel_rfl) rfl (fun _ => hs.to) (fun _ => E.move rfl) ?_
          refine D.evP 1 rfl (by kernel_rfl) rfl (fun _ => hs.to) (fun _ => E.move rfl) ?_
          refine D.evP 2 rfl (by kernel_rfl) rfl (fun _ => hs.to) (fun _ => E.move rfl) ?_
          refine D.evP 3 rfl (by kernel_rfl) rfl (fun _ => hs.to) (fun _ => (E.add rfl rfl (by omega) (by omega)).isI (c := ((first + r : Nat) : Int)) (by omega)) ?_
          refine D.evP 4 rfl (by kernel_rfl) rfl (fun _ => hs.to) (fun _ => E.move rfl) ?_
          refine D.evP 5 rfl (by kernel_rfl) rfl (fun _ => hs.to) (fun _ => E.move rfl) ?_
          refine D.evP 6 rfl (by kernel_rfl) rfl (fun _ => hs.to) (fun _ => E.move rfl) ?_
          refine D.evP 7 rfl (by kernel_rfl) rfl (fun _ => hs.to) (fun _ => (E.add rfl rfl (by omega) (by omega)).isI (c := ((first + ch : Nat) : Int)) (by omega)) ?_
          refine D.evP 8 rfl (by kernel_rfl) rfl (fun _ => hs.to) (fun _ => E.move rfl) ?_
          refine D.evP 9 rfl (by kernel_rfl) rfl (fun _ => hs.to) (fun _ => E.move rfl) ?_
          refine D.evP 10 rfl (by kernel_rfl) rfl (fun _ => hs.to) (fun _ => E.move rfl) ?_
          refine D.evP 11 rfl (by kernel_rfl) rfl (fun _ => hs.to) (fun _ => (E.add rfl rfl (by omega) (by omega)).isI (c := ((first + ch : Nat) : Int)) (by omega)) ?_
          refine D.evP 12 rfl (by kernel_rfl) rfl (fun _ => hs.to) (fun _ => E.indexAddr rfl rfl Tryz.underlying88 Tryz.sz50 rfl (by first | omega | decide)) ?_
          refine D.evP 14 rfl (by kernel_rfl) rfl (fun _ => hs.to) (fun _ => E.move rfl) ?_
          refine D.evP 15 rfl (by kernel_rfl) rfl (fun _ => hs.to) (fun _ => E.move rfl) ?_
          refine D.evP 16 rfl (by kernel_rfl) rfl (fun _ => hs.to) (fun _ => E.move rfl) ?_
          refine D.evP 17 rfl (by kernel_rfl) rfl (fun _ => hs.to) (fun _ => (E.add rfl rfl (by omega) (by omega)).isI (c := ((first + r : Nat) : Int)) (by omega)) ?_
          refine D.evP 18 rfl (by kernel_rfl) rfl (fun _ => hs.to) (fun _ => E.indexAddr rfl rfl Tryz.underlying88 Tryz.sz50 rfl (by first | omega | decide)) ?_
          refine D.ev 13 rfl (by kernel_rfl) rfl hs.to (fun _ hS => E.loadRowC rfl Tryz.underlying50 rfl Tryz.sz50 ⟨A2 _ hS, Enc.len _⟩) ?_
          refine D.ev 19 rfl (by kernel_rfl) rfl hs.to (fun _ hS => E.loadRowC rfl Tryz.underlying50 rfl Tryz.sz50 ⟨A1 _ hS, Enc.len _⟩) ?_
          refine D.evP 20 rfl (by kernel_rfl) rfl (fun _ => hs.to) (fun _ => E.indexAddr rfl rfl Tryz.underlying88 Tryz.sz50 rfl (by first | omega | decide)) ?_
          refine D.act 21 rfl (by kernel_rfl) ?_
          refine R.dset (first + r) hs (r1) rfl rfl Tryz.sz50 (by omega) ?_
          intro w6a F6a r6a hs
          refine D.backT (by kernel_rfl) ?_
          refine D.evP 22 rfl (by kernel_rfl) rfl (np (by kernel_rfl)) (fun _ => E.indexAddr rfl rfl Tryz.underlying88 Tryz.sz50 rfl (by first | omega | decide)) ?_
          refine D.act 23 rfl (by kernel_rfl) ?_
          refine R.dset (first + ch) hs r6a rfl rfl Tryz.sz50 (by omega) ?_
          intro w6 F6 r6 hs
          refine D.backT (by kernel_rfl) ?_
          refine D.done rfl (by kernel_rfl) ?_
          refine X.keep [(0, _), (2, _), (3, _), (4, _), (11, _)] ⟨rfl, rfl, rfl, rfl, rfl, trivial⟩ ?_
          refine X.next ?_
          refine C.region ?_
          refine R.ev rfl (E.move rfl) ?_
          refine R.ev rfl (E.assign rfl) ?_
          refine R.done ?_
          refine X.keep [(0, _), (2, _), (3, _), (4, _), (10, _)] ⟨rfl, rfl, rfl, rfl, rfl, trivial⟩ ?_
          refine X.blockNormal ?_
          exact X.again (ch, _, F6) ⟨rfl, rfl, rfl, rfl, rfl, trivial⟩ ⟨(hgo (by simpa using h58)).symm.trans he, by omega, r6, hs⟩ (by show _ - _ < _ - _; omega)
theorem heheap_any (hf : heCmp K Rs fid fst cps lt) (a b0 : Nat) (hs : Sat K w (F :: Rs)) (hr : heA b m c0 d F) (hab : a < b0) (hb : b0 ≤ m) (hm : m ≤ 1000000000) :
    Ret Tryz.prog 88 #[.slice (some ⟨b, 0, none⟩) m c0, .int .i64 (a : Nat), .int .i64 (b0 : Nat), .func (.func fid) fst.toArray cps.toArray] w fun _ w' => ∃ F', heA b m c0 (heapSort lt d a b0) F' ∧ Sat K w' (F' :: Rs) := by
  refine Ret.enter (n := 60) (args := [.slice (some ⟨b, 0, none⟩) m c0, .int .i64 (a : Nat), .int .i64 (b0 : Nat), .func (.func fid) fst.toArray cps.toArray]) Tryz.func88 rfl rfl ?_
  refine C.keep [(0, _), (1, _), (2, _), (3, _)] ⟨rfl, rfl, rfl, rfl, trivial⟩ ?_
  refine C.seq ?_
  refine C.region ?_
  refine R.ev rfl (E.move rfl) ?_
  refine R.ev rfl (E.assign rfl) ?_
  refine R.done ?_
  refine X.keep [(0, _), (1, _), (2, _), (3, _), (8, _)] ⟨rfl, rfl, rfl, rfl, rfl, trivial⟩ ?_
  refine X.next ?_
  refine C.seq ?_
  refine C.region ?_
  refine R.ev rfl (E.assign rfl) ?_
  refine R.done ?_
  refine X.keep [(0, _), (1, _), (2, _), (3, _), (8, _), (9, _)] ⟨rfl, rfl, rfl, rfl, rfl, rfl, trivial⟩ ?_
  refine X.next ?_
  refine C.seq ?_
  refine C.region ?_
  refine R.ev rfl (E.move rfl) ?_
  refine R.ev rfl (E.move rfl) ?_
  refine R.ev rfl ((E.sub rfl rfl (by omega) (by omega)).isI (c := ((b0 - a : Nat) : Int)) (by omega)) ?_
  refine R.ev rfl (E.assign rfl) ?_
  refine R.done ?_
  refine X.keep [(0, _), (3, _), (8, _), (9, _), (10, _)] ⟨rfl, rfl, rfl, rfl, rfl, trivial⟩ ?_
  refine X.next ?_
  refine C.seq ?_
  refine C.seq ?_
  refine C.region ?_
  refine R.ev rfl (E.move rfl) ?_
  refine R.ev rfl ((E.sub rfl rfl (by omega) (by omega)).isI (c := ((b0 - a - 1 : Nat) : Int)) (by omega)) ?_
  refine R.ev rfl ((E.quo rfl rfl (by omega) (by omega) (by omega)).isI (c := (((b0 - a - 1) / 2 + 1 : Nat) : Int) - 1) (by omega)) ?_
  refine R.ev rfl (E.assign rfl) ?_
  refine R.done ?_
  refine X.keep [(0, _), (3, _), (8, _), (9, _), (10, _), (11, _)] ⟨rfl, rfl, rfl, rfl, rfl, rfl, trivial⟩ ?_
  refine X.next ?_
  refine C.block ?_
  refine C.loop (T := Nat × Array HEnt × Hl) [(0, _), (3, _), (8, _), (9, _), (10, _)] (fun (k, _, _) => [(11, .int .i64 ((k : Int) - 1))]) (fun (k, d1, F1) w' => heapBuild lt (b0 - a) a k d1 = heapBuild lt (b0 - a) a ((b0 - a - 1) / 2 + 1) d ∧ k ≤ m ∧ heA b m c0 d1 F1 ∧ Sat K w' (F1 :: Rs)) (fun (k, _) => k) (((b0 - a - 1) / 2 + 1, d, F)) ⟨rfl, rfl, rfl, rfl, rfl, rfl, trivial⟩ ⟨rfl, by omega, hr, hs⟩ ?_
  rintro ⟨k, d1, F1⟩ w1 ⟨he, hkm, r1, hs⟩
  refine C.keep [(0, _), (3, _), (8, _), (9, _), (10, _), (11, _)] ⟨rfl, rfl, rfl, rfl, rfl, rfl, trivial⟩ ?_
  refine C.seq ?_
  refine C.seq ?_
  refine C.region ?_
  refine R.ev rfl (E.move rfl) ?_
  refine R.ev rfl (E.geq rfl rfl) ?_
  refine R.done ?_
  refine X.keep [(0, _), (3, _), (8, _), (9, _), (10, _), (11, _), (21, _)] ⟨rfl, rfl, rfl, rfl, rfl, rfl, rfl, trivial⟩ ?_
  refine X.next ?_
  refine C.cdec rfl (fun h21 => ?_) (fun h21 => ?_)
  · obtain ⟨k, rfl⟩ : ∃ k', k = k' + 1 := ⟨k - 1, by omega⟩
    rw [show ((k + 1 : Nat) : Int) - 1 = ((k : Nat) : Int) by omega]
    refine C.skip ?_
    refine X.next ?_
    refine C.seq ?_
    refine C.block ?_
    refine C.region ?_
    refine R.ev rfl (E.move rfl) ?_
    refine R.ev rfl (E.move rfl) ?_
    refine R.ev rfl (E.move rfl) ?_
    refine R.ev rfl (E.move rfl) ?_
    refine R.ev rfl (E.move rfl) ?_
    refine R.call ⟨_, _, Tryz.func103, rfl, by kernel_rfl⟩ rfl rfl (hesift_any hf k (b0 - a) a hs r1 (by omega) (by omega) hm) ?_
    rintro _ w6 ⟨F6, r6, hs⟩
    refine R.done ?_
    refine X.keep [(0, _), (3, _), (8, _), (9, _), (10, _), (11, _)] ⟨rfl, rfl, rfl, rfl, rfl, rfl, trivial⟩ ?_
    refine X.blockNormal ?_
    refine X.next ?_
    refine C.region ?_
    refine R.ev rfl (E.move rfl) ?_
    refine R.ev rfl (E.sub rfl rfl (by omega) (by omega)) ?_
    refine R.ev rfl (E.assign rfl) ?_
    refine R.done ?_
    refine X.keep [(0, _), (3, _), (8, _), (9, _), (10, _), (11, _)] ⟨rfl, rfl, rfl, rfl, rfl, rfl, trivial⟩ ?_
    exact X.again (k, _, F6) ⟨rfl, rfl, rfl, rfl, rfl, rfl, trivial⟩ ⟨he, by omega, r6, hs⟩ (by show k < k + 1; omega)
  · refine C.exit ?_
    refine X.thenExit ?_
    refine X.loopExit ?_
    refine X.blockExit ?_
    refine X.next ?_
    refine C.seq ?_
    refine C.region ?_
    have hk0 : k = 0 := by omega
    subst hk0
    have he : d1 = heapBuild lt (b0 - a) a ((b0 - a - 1) / 2 + 1) d := he
    refine R.ev rfl (E.move rfl) ?_
    refine R.ev rfl (E.sub rfl rfl (by omega) (by omega)) ?_
    refine R.ev rfl (E.assign rfl) ?_
    refine R.done ?_
    refine X.keep [(0, _), (3, _), (8, _), (9, _), (12, _)] ⟨rfl, rfl, rfl, rfl, rfl, trivial⟩ ?_
    refine X.next ?_
    refine C.block ?_
    refine C.loop (T := Nat × Array HEnt × Hl) [(0, _), (3, _), (8, _), (9, _)] (fun (k, _, _) => [(12, .int .i64 ((k : Int) - 1))]) (fun (k, d2, F2) w' => heapPop lt a k d2 = heapSort lt d a b0 ∧ k ≤ b0 - a ∧ heA b m c0 d2 F2 ∧ Sat K w' (F2 :: Rs)) (fun (k, _) => k) ((b0 - a, d1, F1)) ⟨rfl, rfl, rfl, rfl, rfl, trivial⟩ ⟨by rw [he]; rfl, by omega, r1, hs⟩ ?_
    rintro ⟨k, d2, F2⟩ w2 ⟨he2, hkm2, r2, hs⟩
    refine C.keep [(0, _), (3, _), (8, _), (9, _), (12, _)] ⟨rfl, rfl, rfl, rfl, rfl, trivial⟩ ?_
    refine C.seq ?_
    refine C.seq ?_
    refine C.region ?_
    refine R.ev rfl (E.move rfl) ?_
    refine R.ev rfl (E.geq rfl rfl) ?_
    refine R.done ?_
    refine X.keep [(0, _), (3, _), (8, _), (9, _), (12, _), (33, _)] ⟨rfl, rfl, rfl, rfl, rfl, rfl, trivial⟩ ?_
    refine X.next ?_
    refine C.cdec rfl (fun h33 => ?_) (fun h33 => ?_)
    · obtain ⟨k, rfl⟩ : ∃ k', k = k' + 1 := ⟨k - 1, by omega⟩
      rw [show ((k + 1 : Nat) : Int) - 1 = ((k : Nat) : Int) by omega]
      have A1 := r2.el (K := K) (Hs := F2 :: Rs) (i := a) (by omega)
      have A2 := r2.el (K := K) (Hs := F2 :: Rs) (i := a + k) (by omega)
      refine C.skip ?_
      refine X.next ?_
      refine C.seq ?_
      refine C.block ?_
      refine C.seq ?_
      refine C.drawn (SatS hs) ([11, 15], [0, 1, 2, 3, 4, 5, 6, 7, 8, 9, 10, 12, 13, 14, 16, 18]) (by kernel_rfl) ?_
      have hs := hs.drew
      refine D.evP 0 rfl (by kernel_rfl) rfl (fun _ => hs.to) (fun _ => E.move rfl) ?_
      refine D.evP 1 rfl (by kernel_rfl) rfl (fun _ => hs.to) (fun _ => E.move rfl) ?_
      refine D.evP 2 rfl (by kernel_rfl) rfl (fun _ => hs.to) (fun _ => E.move rfl) ?_
      refine D.evP 3 rfl (by kernel_rfl) rfl (fun _ => hs.to) (fun _ => E.move rfl) ?_
      refine D.evP 4 rfl (by kernel_rfl) rfl (fun _ => hs.to) (fun _ => E.move rfl) ?_
      refine D.evP 5 rfl (by kernel_rfl) rfl (fun _ => hs.to) (fun _ => (E.add rfl rfl (by omega) (by omega)).isI (c := ((a + k : Nat) : Int)) (by omega)) ?_
      refine D.evP 6 rfl (by kernel_rfl) rfl (fun _ => hs.to) (fun _ => E.move rfl) ?_
      refine D.evP 7 rfl (by kernel_rfl) rfl (fun _ => hs.to) (fun _ => E.move rfl) ?_
      refine D.evP 8 rfl (by kernel_rfl) rfl (fun _ => hs.to) (fun _ => E.move rfl) ?_
      refine D.evP 9 rfl (by kernel_rfl) rfl (fun _ => hs.to) (fun _ => (E.add rfl rfl (by omega) (by omega)).isI (c := ((a + k : Nat) : Int)) (by omega)) ?_
      refine D.evP 10 rfl (by kernel_rfl) rfl (fun _ => hs.to) (fun _ => E.indexAddr rfl rfl Tryz.underlying88 Tryz.sz50 rfl (by first | omega | decide)) ?_
      refine D.evP 12 rfl (by kernel_rfl) rfl (fun _ => hs.to) (fun _ => E.move rfl) ?_
      refine D.evP 13 rfl (by kernel_rfl) rfl (fun _ => hs.to) (fun _ => E.move rfl) ?_
      refine D.evP 14 rfl (by kernel_rfl) rfl (fun _ => hs.to) (fun _ => E.indexAddr rfl rfl Tryz.underlying88 Tryz.sz50 rfl (by first | omega | decide)) ?_
      refine D.ev 11 rfl (by kernel_rfl) rfl hs.to (fun _ hS => E.loadRowC rfl Tryz.underlying50 rfl Tryz.sz50 ⟨A2 _ hS, Enc.len _⟩) ?_
      refine D.ev 15 rfl (by kernel_rfl) rfl hs.to (fun _ hS => E.loadRowC rfl Tryz.underlying50 rfl Tryz.sz50 ⟨A1 _ hS, Enc.len _⟩) ?_
      refine D.evP 16 rfl (by kernel_rfl) rfl (fun _ => hs.to) (fun _ => E.indexAddr rfl rfl Tryz.underlying88 Tryz.sz50 rfl (by first | omega | decide)) ?_
      refine D.act 17 rfl (by kernel_rfl) ?_
      refine R.dset (a) hs (r2) rfl rfl Tryz.sz50 (by omega) ?_
      intro w10a F10a r10a hs
      refine D.backT (by kernel_rfl) ?_
      refine D.evP 18 rfl (by kernel_rfl) rfl (np (by kernel_rfl)) (fun _ => E.indexAddr rfl rfl Tryz.underlying88 Tryz.sz50 rfl (by first | omega | decide)) ?_
      refine D.act 19 rfl (by kernel_rfl) ?_
      refine R.dset (a + k) hs r10a rfl rfl Tryz.sz50 (by omega) ?_
      intro w10 F10 r10 hs
      refine D.backT (by kernel_rfl) ?_
      refine D.done rfl (by kernel_rfl) ?_
      refine X.keep [(0, _), (3, _), (8, _), (9, _), (12, _)] ⟨rfl, rfl, rfl, rfl, rfl, trivial⟩ ?_
      refine X.next ?_
      refine C.region ?_
      refine R.ev rfl (E.move rfl) ?_
      refine R.ev rfl (E.move rfl) ?_
      refine R.ev rfl (E.move rfl) ?_
      refine R.ev rfl (E.move rfl) ?_
      refine R.ev rfl (E.move rfl) ?_
      refine R.call ⟨_, _, Tryz.func103, rfl, by kernel_rfl⟩ rfl rfl (hesift_any hf 0 k a hs r10 (by omega) (by omega) hm) ?_
      rintro _ w11 ⟨F11, r11, hs⟩
      refine R.done ?_
      refine X.keep [(0, _), (3, _), (8, _), (9, _), (12, _)] ⟨rfl, rfl, rfl, rfl, rfl, trivial⟩ ?_
      refine X.blockNormal ?_
      refine X.next ?_
      refine C.region ?_
      refine R.ev rfl (E.move rfl) ?_
      refine R.ev rfl (E.sub rfl rfl (by omega) (by omega)) ?_
      refine R.ev rfl (E.assign rfl) ?_
      refine R.done ?_
      refine X.keep [(0, _), (3, _), (8, _), (9, _), (12, _)] ⟨rfl, rfl, rfl, rfl, rfl, trivial⟩ ?_
      exact X.again (k, _, F11) ⟨rfl, rfl, rfl, rfl, rfl, trivial⟩ ⟨he2, by omega, r11, hs⟩ (by show k < k + 1; omega)
    · refine C.exit ?_
      refine X.thenExit ?_
      refine X.loopExit ?_
      refine X.blockExit ?_
      refine X.bodyNormal ?_
      refine X.ret0 rfl ?_
      have hk0 : k = 0 := by omega
      subst hk0
      exact ⟨F2, by rw [← he2]; exact r2, hs⟩
theorem herev_any (a b0 : Nat) (cv : Value) (hs : Sat K w (F :: Rs)) (hr : heA b m c0 d F) (hab : a < b0) (hb : b0 ≤ m) (hm : m ≤ 1000000000) :
    Ret Tryz.prog 91 #[.slice (some ⟨b, 0, none⟩) m c0, .int .i64 (a : Nat), .int .i64 (b0 : Nat), cv] w fun _ w' => ∃ F', heA b m c0 (reverseRange d a b0) F' ∧ Sat K w' (F' :: Rs) := by
  refine Ret.enter (n := 34) (args := [.slice (some ⟨b, 0, none⟩) m c0, .int .i64 (a : Nat), .int .i64 (b0 : Nat), cv]) Tryz.func91 rfl rfl ?_
  refine C.keep [(0, _), (1, _), (2, _)] ⟨rfl, rfl, rfl, trivial⟩ ?_
  refine C.seq ?_
  refine C.region ?_
  refine R.ev rfl (E.move rfl) ?_
  refine R.ev rfl (E.assign rfl) ?_
  refine R.done ?_
  refine X.keep [(0, _), (2, _), (8, _)] ⟨rfl, rfl, rfl, trivial⟩ ?_
  refine X.next ?_
  refine C.seq ?_
  refine C.region ?_
  refine R.ev rfl (E.move rfl) ?_
  refine R.ev rfl ((E.sub rfl rfl (by omega) (by omega)).isI (c := ((b0 - 1 : Nat) : Int)) (by omega)) ?_
  refine R.ev rfl (E.assign rfl) ?_
  refine R.done ?_
  refine X.keep [(0, _), (8, _), (9, _)] ⟨rfl, rfl, rfl, trivial⟩ ?_
  refine X.next ?_
  refine C.block ?_
  refine C.loop (T := Nat × Nat × Array HEnt × Hl) [(0, _)] (fun (i, j, _, _) => [(8, .int .i64 (i : Nat)), (9, .int .i64 (j : Nat))]) (fun (i, j, d1, F1) w' => reverseLoop i j d1 = reverseRange d a b0 ∧ i ≤ m ∧ j < m ∧ heA b m c0 d1 F1 ∧ Sat K w' (F1 :: Rs)) (fun (i, j, _) => j - i) ((a, b0 - 1, d, F)) ⟨rfl, rfl, rfl, trivial⟩ ⟨rfl, by omega, by omega, hr, hs⟩ ?_
  rintro ⟨i, j, d1, F1⟩ w1 ⟨he, hi, hj, r1, hs⟩
  refine C.keep [(0, _), (8, _), (9, _)] ⟨rfl, rfl, rfl, trivial⟩ ?_
  refine C.seq ?_
  refine C.seq ?_
  refine C.region ?_
  refine R.ev rfl (E.move rfl) ?_
  refine R.ev rfl (E.move rfl) ?_
  refine R.ev rfl (E.lss rfl rfl) ?_
  refine R.done ?_
  refine X.keep [(0, _), (8, _), (9, _), (15, _)] ⟨rfl, rfl, rfl, rfl, trivial⟩ ?_
  refine X.next ?_
  refine C.cdec rfl (fun h15 => ?_) (fun h15 => ?_)
  · have A1 := r1.el (K := K) (Hs := F1 :: Rs) (i := i) (by omega)
    have A2 := r1.el (K := K) (Hs := F1 :: Rs) (i := j) (by omega)
    refine C.skip ?_
    refine X.next ?_
    refine C.block ?_
    refine C.seq ?_
    refine C.drawn (SatS hs) ([7, 11], [0, 1, 2, 3, 4, 5, 6, 8, 9, 10, 12, 14]) (by kernel_rfl) ?_
    have hs := hs.drew
    refine D.evP 0 rfl (by kernel_rfl) rfl (fun _ => hs.to) (fun _ => E.move rfl) ?_
    refine D.evP 1 rfl (by kernel_rfl) rfl (fun _ => hs.to) (fun _ => E.move rfl) ?_
    refine D.evP 2 rfl (by kernel_rfl) rfl (fun _ => hs.to) (fun _ => E.move rfl) ?_
    refine D.evP 3 rfl (by kernel_rfl) rfl (fun _ => hs.to) (fun _ => E.move rfl) ?_
    refine D.evP 4 rfl (by kernel_rfl) rfl (fun _ => hs.to) (fun _ => E.move rfl) ?_
    refine D.evP 5 rfl (by kernel_rfl) rfl (fun _ => hs.to) (fun _ => E.move rfl) ?_
    refine D.evP 6 rfl (by kernel_rfl) rfl (fun _ => hs.to) (fun _ => E.indexAddr rfl rfl Tryz.underlying88 Tryz.sz50 rfl (by first | omega | decide)) ?_
    refine D.evP 8 rfl (by kernel_rfl) rfl (fun _ => hs.to) (fun _ => E.move rfl) ?_
    refine D.evP 9 rfl (by kernel_rfl) rfl (fun _ => hs.to) (fun _ => E.move rfl) ?_
    refine D.evP 10 rfl (by kernel_rfl) rfl (fun _ => hs.to) (fun _ => E.indexAddr rfl rfl Tryz.underlying88 Tryz.sz50 rfl (by first | omega | decide)) ?_
    refine D.ev 7 rfl (by kernel_rfl) rfl hs.to (fun _ hS => E.loadRowC rfl Tryz.underlying50 rfl Tryz.sz50 ⟨A2 _ hS, Enc.len _⟩) ?_
    refine D.ev 11 rfl (by kernel_rfl) rfl hs.to (fun _ hS => E.loadRowC rfl Tryz.underlying50 rfl Tryz.sz50 ⟨A1 _ hS, Enc.len _⟩) ?_
    refine D.evP 12 rfl (by kernel_rfl) rfl (fun _ => hs.to) (fun _ => E.indexAddr rfl rfl Tryz.underlying88 Tryz.sz50 rfl (by first | omega | decide)) ?_
    refine D.act 13 rfl (by kernel_rfl) ?_
    refine R.dset (i) hs (r1) rfl rfl Tryz.sz50 (by omega) ?_
    intro w3a F3a r3a hs
    refine D.backT (by kernel_rfl) ?_
    refine D.evP 14 rfl (by kernel_rfl) rfl (np (by kernel_rfl)) (fun _ => E.indexAddr rfl rfl Tryz.underlying88 Tryz.sz50 rfl (by first | omega | decide)) ?_
    refine D.act 15 rfl (by kernel_rfl) ?_
    refine R.dset (j) hs r3a rfl rfl Tryz.sz50 (by omega) ?_
    intro w3 F3 r3 hs
    refine D.backT (by kernel_rfl) ?_
    refine D.done rfl (by kernel_rfl) ?_
    refine X.keep [(0, _), (8, _), (9, _)] ⟨rfl, rfl, rfl, trivial⟩ ?_
    refine X.next ?_
    refine C.seq ?_
    refine C.region ?_
    refine R.ev rfl (E.move rfl) ?_
    refine R.ev rfl ((E.add rfl rfl (by omega) (by omega)).isI (c := ((i + 1 : Nat) : Int)) (by omega)) ?_
    refine R.ev rfl (E.assign rfl) ?_
    refine R.done ?_
    refine X.keep [(0, _), (8, _), (9, _)] ⟨rfl, rfl, rfl, trivial⟩ ?_
    refine X.next ?_
    refine C.region ?_
    refine R.ev rfl (E.move rfl) ?_
    refine R.ev rfl ((E.sub rfl rfl (by omega) (by omega)).isI (c := ((j - 1 : Nat) : Int)) (by omega)) ?_
    refine R.ev rfl (E.assign rfl) ?_
    refine R.done ?_
    refine X.keep [(0, _), (8, _), (9, _)] ⟨rfl, rfl, rfl, trivial⟩ ?_
    refine X.blockNormal ?_
    exact X.again (i + 1, j - 1, _, F3) ⟨rfl, rfl, rfl, trivial⟩ ⟨(reverse_go (d := d1) (by omega)).symm.trans he, by omega, by omega, r3, hs⟩ (by show _ - _ < _ - _; omega)
  · refine C.exit ?_
    refine X.thenExit ?_
    refine X.loopExit ?_
    refine X.blockExit ?_
    refine X.bodyNormal ?_
    refine X.ret0 rfl ?_
    exact ⟨F1, by rw [← he, reverse_stop (by omega)]; exact r1, hs⟩
theorem hepart_any (hf : heCmp K Rs fid fst cps lt) (a b0 pv : Nat) (hs : Sat K w (F :: Rs)) (hr : heA b m c0 d F) (hap : a ≤ pv) (hpb : pv < b0) (hb : b0 ≤ m) (hm : m ≤ 1000000000) :
    Ret Tryz.prog 94 #[.slice (some ⟨b, 0, none⟩) m c0, .int .i64 (a : Nat), .int .i64 (b0 : Nat), .int .i64 (pv : Nat), .func (.func fid) fst.toArray cps.toArray] w fun r w' => r = .tuple #[.int .i64 ((partition lt d a b0 pv).1 : Nat), .bool (partition lt d a b0 pv).2.1] ∧ ∃ F', heA b m c0 (partition lt d a b0 pv).2.2 F' ∧ Sat K w' (F' :: Rs) := by
  refine Ret.enter (n := 178) (args := [.slice (some ⟨b, 0, none⟩) m c0, .int .i64 (a : Nat), .int .i64 (b0 : Nat), .int .i64 (pv : Nat), .func (.func fid) fst.toArray cps.toArray]) Tryz.func94 rfl rfl ?_
  refine C.keep [(0, _), (1, _), (2, _), (3, _), (4, _)] ⟨rfl, rfl, rfl, rfl, rfl, trivial⟩ ?_
  refine C.seq ?_
  refine C.region ?_
  refine R.ev rfl (E.assign rfl) ?_
  refine R.ev rfl (E.assign rfl) ?_
  refine R.done ?_
  refine X.keep [(0, _), (1, _), (2, _), (3, _), (4, _)] ⟨rfl, rfl, rfl, rfl, rfl, trivial⟩ ?_
  refine X.next ?_
  refine C.seq ?_
  refine C.drawn (SatS hs) ([7, 11], [0, 1, 2, 3, 4, 5, 6, 8, 9, 10, 12, 14]) (by kernel_rfl) ?_
  have hs := hs.drew
  have A1 := hr.el (K := K) (Hs := F :: Rs) (i := a) (by omega)
  have A2 := hr.el (K := K) (Hs := F :: Rs) (i := pv) (by omega)
  refine D.evP 0 rfl (by kernel_rfl) rfl (fun _ => hs.to) (fun _ => E.move rfl) ?_
  refine D.evP 1 rfl (by kernel_rfl) rfl (fun _ => hs.to) (fun _ => E.move rfl) ?_
  refine D.evP 2 rfl (by kernel_rfl) rfl (fun _ => hs.to) (fun _ => E.move rfl) ?_
  refine D.evP 3 rfl (by kernel_rfl) rfl (fun _ => hs.to) (fun _ => E.move rfl) ?_
  refine D.evP 4 rfl (by kernel_rfl) rfl (fun _ => hs.to) (fun _ => E.move rfl) ?_
  refine D.evP 5 rfl (by kernel_rfl) rfl (fun _ => hs.to) (fun _ => E.move rfl) ?_
  refine D.evP 6 rfl (by kernel_rfl) rfl (fun _ => hs.to) (fun _ => E.indexAddr rfl rfl Tryz.underlying88 Tryz.sz50 rfl (by first | omega | decide)) ?_
  refine D.evP 8 rfl (by kernel_rfl) rfl (fun _ => hs.to) (fun _ => E.move rfl) ?_
  refine D.evP 9 rfl (by kernel_rfl) rfl (fun _ => hs.to) (fun _ => E.move rfl) ?_
  refine D.evP 10 rfl (by kernel_rfl) rfl (fun _ => hs.to) (fun _ => E.indexAddr rfl rfl Tryz.underlying88 Tryz.sz50 rfl (by first | omega | decide)) ?_
  refine D.ev 7 rfl (by kernel_rfl) rfl hs.to (fun _ hS => E.loadRowC rfl Tryz.underlying50 rfl Tryz.sz50 ⟨A2 _ hS, Enc.len _⟩) ?_
  refine D.ev 11 rfl (by kernel_rfl) rfl hs.to (fun _ hS => E.loadRowC rfl Tryz.underlying50 rfl Tryz.sz50 ⟨A1 _ hS, Enc.len _⟩) ?_
  refine D.evP 12 rfl (by kernel_rfl) rfl (fun _ => hs.to) (fun _ => E.indexAddr rfl rfl Tryz.underlying88 Tryz.sz50 rfl (by first | omega | decide)) ?_
  refine D.act 13 rfl (by kernel_rfl) ?_
  refine R.dset (a) hs (hr) rfl rfl Tryz.sz50 (by omega) ?_
  intro w1a F1a r1a hs
  refine D.backT (by kernel_rfl) ?_
  refine D.evP 14 rfl (by kernel_rfl) rfl (np (by kernel_rfl)) (fun _ => E.indexAddr rfl rfl Tryz.underlying88 Tryz.sz50 rfl (by first | omega | decide)) ?_
  refine D.act 15 rfl (by kernel_rfl) ?_
  refine R.dset (pv) hs r1a rfl rfl Tryz.sz50 (by omega) ?_
  intro w1 F1 r1 hs
  refine D.backT (by kernel_rfl) ?_
  refine D.done rfl (by kernel_rfl) ?_
  refine X.keep [(0, _), (1, _), (2, _), (4, _)] ⟨rfl, rfl, rfl, rfl, trivial⟩ ?_
  refine X.next ?_
  refine C.seq ?_
  refine C.region ?_
  generalize hd0 : (d.setIfInBounds a d[pv]!).setIfInBounds pv d[a]! = d0 at r1
  have hd0 : swp d a pv = d0 := hd0
  refine R.ev rfl (E.move rfl) ?_
  refine R.ev rfl ((E.add rfl rfl (by omega) (by omega)).isI (c := ((a + 1 : Nat) : Int)) (by omega)) ?_
  refine R.ev rfl (E.move rfl) ?_
  refine R.ev rfl ((E.sub rfl rfl (by omega) (by omega)).isI (c := ((b0 - 1 : Nat) : Int)) (by omega)) ?_
  refine R.ev rfl (E.assign rfl) ?_
  refine R.ev rfl (E.assign rfl) ?_
  refine R.done ?_
  refine X.keep [(0, _), (1, _), (4, _), (12, _), (13, _)] ⟨rfl, rfl, rfl, rfl, rfl, trivial⟩ ?_
  refine X.next ?_
  refine C.seq ?_
  refine C.block ?_
  refine C.loop  [(0, _), (1, _), (4, _), (13, _)] (fun i => [(12, .int .i64 (i : Nat))]) (fun i w' => scanUp (fun x => lt x d0[a]!) d0 (b0 - 1) i = scanUp (fun x => lt x d0[a]!) d0 (b0 - 1) (a + 1) ∧ a + 1 ≤ i ∧ i ≤ b0 ∧ Sat K w' (F1 :: Rs)) (fun i => b0 - i) (a + 1) ⟨rfl, rfl, rfl, rfl, rfl, trivial⟩ ⟨rfl, by omega, by omega, hs⟩ ?_
  rintro i w2 ⟨hi, hai, hib, hs⟩
  refine C.keep [(0, _), (1, _), (4, _), (12, _), (13, _)] ⟨rfl, rfl, rfl, rfl, rfl, trivial⟩ ?_
  refine C.seq ?_
  refine C.seq ?_
  refine C.cut [(0, _), (1, _), (4, _), (12, _), (13, _)] (fun (_ : Unit) => [(47, .bool (decide (((i : Nat) : Int) ≤ ((b0 - 1 : Nat) : Int)) && lt d0[i]! d0[a]!))]) (fun _ w' => Sat K w' (F1 :: Rs)) ⟨rfl, rfl, rfl, rfl, rfl, trivial⟩ ?_ ?_
  · refine C.drawn (SatS hs) ([8, 12], [0, 1, 2, 3, 4, 5, 6, 7, 9, 10, 11, 14, 15]) (by kernel_rfl) ?_
    have hs := hs.drew
    refine D.evP 0 rfl (by kernel_rfl) rfl (fun _ => hs.to) (fun _ => E.move rfl) ?_
    refine D.evP 1 rfl (by kernel_rfl) rfl (fun _ => hs.to) (fun _ => E.move rfl) ?_
    refine D.evP 2 rfl (by kernel_rfl) rfl (fun _ => hs.to) (fun _ => E.leq rfl rfl) ?_
    refine D.evP 3 rfl (by kernel_rfl) rfl (fun _ => hs.to) (fun _ => E.move rfl) ?_
    refine D.split 35 rfl (fun h35 => ?_) (fun h35 => ?_)
    · have h35' := of_decide_eq_true h35
      have A1 := r1.el (K := K) (Hs := F1 :: Rs) (i := i) (by omega)
      have A2 := r1.el (K := K) (Hs := F1 :: Rs) (i := a) (by omega)
      refine D.evPG 4 rfl (by kernel_rfl) rfl rfl rfl (fun _ => hs.to) (fun _ => E.move rfl) ?_
      refine D.evPG 5 rfl (by kernel_rfl) rfl rfl rfl (fun _ => hs.to) (fun _ => E.move rfl) ?_
      refine D.evPG 6 rfl (by kernel_rfl) rfl rfl rfl (fun _ => hs.to) (fun _ => E.move rfl) ?_
      refine D.evPG 7 rfl (by kernel_rfl) rfl rfl rfl (fun _ => hs.to) (fun _ => E.indexAddr rfl rfl Tryz.underlying88 Tryz.sz50 rfl (by first | omega | decide)) ?_
      refine D.evPG 9 rfl (by kernel_rfl) rfl rfl rfl (fun _ => hs.to) (fun _ => E.move rfl) ?_
      refine D.evPG 10 rfl (by kernel_rfl) rfl rfl rfl (fun _ => hs.to) (fun _ => E.move rfl) ?_
      refine D.evPG 11 rfl (by kernel_rfl) rfl rfl rfl (fun _ => hs.to) (fun _ => E.indexAddr rfl rfl Tryz.underlying88 Tryz.sz50 rfl (by first | omega | decide)) ?_
      refine D.evG 8 rfl (by kernel_rfl) rfl rfl rfl hs.to (fun _ hS => E.loadRowC rfl Tryz.underlying50 rfl Tryz.sz50 ⟨A1 _ hS, Enc.len _⟩) ?_
      refine D.evG 12 rfl (by kernel_rfl) rfl rfl rfl hs.to (fun _ hS => E.loadRowC rfl Tryz.underlying50 rfl Tryz.sz50 ⟨A2 _ hS, Enc.len _⟩) ?_
      refine D.act 13 rfl (by kernel_rfl) ?_
      refine R.gyes rfl rfl ?_
      refine R.callV hf.1 rfl rfl rfl (hf.2 _ _ _ _ inferInstance hs) ?_
      rintro _ w3 ⟨cc3, rfl, hcc3, hs⟩
      refine D.backT (by kernel_rfl) ?_
      refine D.evPG 14 rfl (by kernel_rfl) rfl rfl rfl (np (by kernel_rfl)) (fun _ => (E.lss rfl rfl).isB (c := lt d0[i]! d0[a]!) hcc3) ?_
      refine D.evP 15 rfl (by kernel_rfl) rfl (np (by kernel_rfl)) (fun _ => E.pickT rfl rfl) ?_
      refine D.done rfl (by kernel_rfl) ?_
      refine X.keep [(0, _), (1, _), (4, _), (12, _), (13, _), (47, _)] ⟨rfl, rfl, rfl, rfl, rfl, rfl, trivial⟩ ?_
      refine X.cut (()) ⟨lkV rfl ?_, rfl, rfl, rfl, rfl, rfl, trivial⟩ ?_
      · first | exact gT h35 | exact gF h35
      exact hs
    · refine D.skipP 4 rfl (by kernel_rfl) rfl rfl rfl (fun _ => hs.to) ?_
      refine D.skipP 5 rfl (by kernel_rfl) rfl rfl rfl (fun _ => hs.to) ?_
      refine D.skipP 6 rfl (by kernel_rfl) rfl rfl rfl (fun _ => hs.to) ?_
      refine D.skipP 7 rfl (by kernel_rfl) rfl rfl rfl (fun _ => hs.to) ?_
      refine D.skipP 9 rfl (by kernel_rfl) rfl rfl rfl (fun _ => hs.to) ?_
      refine D.skipP 10 rfl (by kernel_rfl) rfl rfl rfl (fun _ => hs.to) ?_
      refine D.skipP 11 rfl (by kernel_rfl) rfl rfl rfl (fun _ => hs.to) ?_
      refine D.skip 8 rfl (by kernel_rfl) rfl rfl rfl hs.to ?_
      refine D.skip 12 rfl (by kernel_rfl) rfl rfl rfl hs.to ?_
      refine D.act 13 rfl (by kernel_rfl) ?_
      refine R.gskip rfl rfl rfl ?_
      refine D.backT (by kernel_rfl) ?_
      refine D.skipP 14 rfl (by kernel_rfl) rfl rfl rfl (np (by kernel_rfl)) ?_
      refine D.evP 15 rfl (by kernel_rfl) rfl (np (by kernel_rfl)) (fun _ => E.pickF rfl rfl) ?_
      refine D.done rfl (by kernel_rfl) ?_
      refine X.keep [(0, _), (1, _), (4, _), (12, _), (13, _), (47, _)] ⟨rfl, rfl, rfl, rfl, rfl, rfl, trivial⟩ ?_
      refine X.cut (()) ⟨lkV rfl ?_, rfl, rfl, rfl, rfl, rfl, trivial⟩ ?_
      · first | exact gT h35 | exact gF h35
      exact hs
  · rintro _ w3 hs
    refine X.keep [(0, _), (1, _), (4, _), (12, _), (13, _), (47, _)] ⟨rfl, rfl, rfl, rfl, rfl, rfl, trivial⟩ ?_
    refine X.next ?_
    refine C.cbool rfl (fun h47 => ?_) (fun h47 => ?_)
    · have hT := and_T h47
      refine C.skip ?_
      refine X.next ?_
      refine C.block ?_
      refine C.region ?_
      refine R.ev rfl (E.move rfl) ?_
      refine R.ev rfl ((E.add rfl rfl (by omega) (by omega)).isI (c := ((i + 1 : Nat) : Int)) (by omega)) ?_
      refine R.ev rfl (E.assign rfl) ?_
      refine R.done ?_
      refine X.keep [(0, _), (1, _), (4, _), (12, _), (13, _)] ⟨rfl, rfl, rfl, rfl, rfl, trivial⟩ ?_
      refine X.blockNormal ?_
      exact X.again (i + 1) ⟨rfl, rfl, rfl, rfl, rfl, trivial⟩ ⟨by rw [← hi, scanUp_go (p := fun x => lt x d0[a]!) (by omega) hT.2], by omega, by omega, hs⟩ (by omega)
    · have hF := and_F h47
      rw [scanUp_stop (p := fun x => lt x d0[a]!) (fun hh => hF ⟨by omega, hh.2⟩)] at hi
      refine C.exit ?_
      refine X.thenExit ?_
      refine X.loopExit ?_
      refine X.blockExit ?_
      refine X.next ?_
      refine C.seq ?_
      refine C.block ?_
      refine C.loop  [(0, _), (1, _), (4, _), (12, _)] (fun j => [(13, .int .i64 (j : Nat))]) (fun j w' => scanDown (fun x => !lt x d0[a]!) d0 i j = scanDown (fun x => !lt x d0[a]!) d0 i (b0 - 1) ∧ a ≤ j ∧ j ≤ b0 - 1 ∧ Sat K w' (F1 :: Rs)) (fun j => j) (b0 - 1) ⟨rfl, rfl, rfl, rfl, rfl, trivial⟩ ⟨rfl, by omega, by omega, hs⟩ ?_
      rintro j w4 ⟨hj, haj, hjb, hs⟩
      refine C.keep [(0, _), (1, _), (4, _), (12, _), (13, _)] ⟨rfl, rfl, rfl, rfl, rfl, trivial⟩ ?_
      refine C.seq ?_
      refine C.seq ?_
      refine C.cut [(0, _), (1, _), (4, _), (12, _), (13, _)] (fun (_ : Unit) => [(66, .bool (decide (((i : Nat) : Int) ≤ ((j : Nat) : Int)) && !lt d0[j]! d0[a]!))]) (fun _ w' => Sat K w' (F1 :: Rs)) ⟨rfl, rfl, rfl, rfl, rfl, trivial⟩ ?_ ?_
      · refine C.drawn (SatS hs) ([8, 12], [0, 1, 2, 3, 4, 5, 6, 7, 9, 10, 11, 14, 15, 16]) (by kernel_rfl) ?_
        have hs := hs.drew
        refine D.evP 0 rfl (by kernel_rfl) rfl (fun _ => hs.to) (fun _ => E.move rfl) ?_
        refine D.evP 1 rfl (by kernel_rfl) rfl (fun _ => hs.to) (fun _ => E.move rfl) ?_
        refine D.evP 2 rfl (by kernel_rfl) rfl (fun _ => hs.to) (fun _ => E.leq rfl rfl) ?_
        refine D.evP 3 rfl (by kernel_rfl) rfl (fun _ => hs.to) (fun _ => E.move rfl) ?_
        refine D.split 53 rfl (fun h53 => ?_) (fun h53 => ?_)
        · have h53' := of_decide_eq_true h53
          have A1 := r1.el (K := K) (Hs := F1 :: Rs) (i := j) (by omega)
          have A2 := r1.el (K := K) (Hs := F1 :: Rs) (i := a) (by omega)
          refine D.evPG 4 rfl (by kernel_rfl) rfl rfl rfl (fun _ => hs.to) (fun _ => E.move rfl) ?_
          refine D.evPG 5 rfl (by kernel_rfl) rfl rfl rfl (fun _ => hs.to) (fun _ => E.move rfl) ?_
          refine D.evPG 6 rfl (by kernel_rfl) rfl rfl rfl (fun _ => hs.to) (fun _ => E.move rfl) ?_
          refine D.evPG 7 rfl (by kernel_rfl) rfl rfl rfl (fun _ => hs.to) (fun _ => E.indexAddr rfl rfl Tryz.underlying88 Tryz.sz50 rfl (by first | omega | decide)) ?_
          refine D.evPG 9 rfl (by kernel_rfl) rfl rfl rfl (fun _ => hs.to) (fun _ => E.move rfl) ?_
          refine D.evPG 10 rfl (by kernel_rfl) rfl rfl rfl (fun _ => hs.to) (fun _ => E.move rfl) ?_
          refine D.evPG 11 rfl (by kernel_rfl) rfl rfl rfl (fun _ => hs.to) (fun _ => E.indexAddr rfl rfl Tryz.underlying88 Tryz.sz50 rfl (by first | omega | decide)) ?_
          refine D.evG 8 rfl (by kernel_rfl) rfl rfl rfl hs.to (fun _ hS => E.loadRowC rfl Tryz.underlying50 rfl Tryz.sz50 ⟨A1 _ hS, Enc.len _⟩) ?_
          refine D.evG 12 rfl (by kernel_rfl) rfl rfl rfl hs.to (fun _ hS => E.loadRowC rfl Tryz.underlying50 rfl Tryz.sz50 ⟨A2 _ hS, Enc.len _⟩) ?_
          refine D.act 13 rfl (by kernel_rfl) ?_
          refine R.gyes rfl rfl ?_
          refine R.callV hf.1 rfl rfl rfl (hf.2 _ _ _ _ inferInstance hs) ?_
          rintro _ w5 ⟨cc5, rfl, hcc5, hs⟩
          refine D.backT (by kernel_rfl) ?_
          refine D.evPG 14 rfl (by kernel_rfl) rfl rfl rfl (np (by kernel_rfl)) (fun _ => (E.lss rfl rfl).isB (c := lt d0[j]! d0[a]!) hcc5) ?_
          refine D.evPG 15 rfl (by kernel_rfl) rfl rfl rfl (np (by kernel_rfl)) (fun _ => (E.not rfl).isB (c := !(lt d0[j]! d0[a]!)) rfl) ?_
          refine D.evP 16 rfl (by kernel_rfl) rfl (np (by kernel_rfl)) (fun _ => E.pickT rfl rfl) ?_
          refine D.done rfl (by kernel_rfl) ?_
          refine X.keep [(0, _), (1, _), (4, _), (12, _), (13, _), (66, _)] ⟨rfl, rfl, rfl, rfl, rfl, rfl, trivial⟩ ?_
          refine X.cut (()) ⟨lkV rfl ?_, rfl, rfl, rfl, rfl, rfl, trivial⟩ ?_
          · first | exact gT h53 | exact gF h53
          exact hs
        · refine D.skipP 4 rfl (by kernel_rfl) rfl rfl rfl (fun _ => hs.to) ?_
          refine D.skipP 5 rfl (by kernel_rfl) rfl rfl rfl (fun _ => hs.to) ?_
          refine D.skipP 6 rfl (by kernel_rfl) rfl rfl rfl (fun _ => hs.to) ?_
          refine D.skipP 7 rfl (by kernel_rfl) rfl rfl rfl (fun _ => hs.to) ?_
          refine D.skipP 9 rfl (by kernel_rfl) rfl rfl rfl (fun _ => hs.to) ?_
          refine D.skipP 10 rfl (by kernel_rfl) rfl rfl rfl (fun _ => hs.to) ?_
          refine D.skipP 11 rfl (by kernel_rfl) rfl rfl rfl (fun _ => hs.to) ?_
          refine D.skip 8 rfl (by kernel_rfl) rfl rfl rfl hs.to ?_
          refine D.skip 12 rfl (by kernel_rfl) rfl rfl rfl hs.to ?_
          refine D.act 13 rfl (by kernel_rfl) ?_
          refine R.gskip rfl rfl rfl ?_
          refine D.backT (by kernel_rfl) ?_
          refine D.skipP 14 rfl (by kernel_rfl) rfl rfl rfl (np (by kernel_rfl)) ?_
          refine D.skipP 15 rfl (by kernel_rfl) rfl rfl rfl (np (by kernel_rfl)) ?_
          refine D.evP 16 rfl (by kernel_rfl) rfl (np (by kernel_rfl)) (fun _ => E.pickF rfl rfl) ?_
          refine D.done rfl (by kernel_rfl) ?_
          refine X.keep [(0, _), (1, _), (4, _), (12, _), (13, _), (66, _)] ⟨rfl, rfl, rfl, rfl, rfl, rfl, trivial⟩ ?_
          refine X.cut (()) ⟨lkV rfl ?_, rfl, rfl, rfl, rfl, rfl, trivial⟩ ?_
          · first | exact gT h53 | exact gF h53
          exact hs
      · rintro _ w5 hs
        refine X.keep [(0, _), (1, _), (4, _), (12, _), (13, _), (66, _)] ⟨rfl, rfl, rfl, rfl, rfl, rfl, trivial⟩ ?_
        refine X.next ?_
        refine C.cbool rfl (fun h66 => ?_) (fun h66 => ?_)
        · have hT := and_T h66
          refine C.skip ?_
          refine X.next ?_
          refine C.block ?_
          refine C.region ?_
          refine R.ev rfl (E.move rfl) ?_
          refine R.ev rfl ((E.sub rfl rfl (by omega) (by omega)).isI (c := ((j - 1 : Nat) : Int)) (by omega)) ?_
          refine R.ev rfl (E.assign rfl) ?_
          refine R.done ?_
          refine X.keep [(0, _), (1, _), (4, _), (12, _), (13, _)] ⟨rfl, rfl, rfl, rfl, rfl, trivial⟩ ?_
          refine X.blockNormal ?_
          exact X.again (j - 1) ⟨rfl, rfl, rfl, rfl, rfl, trivial⟩ ⟨by rw [← hj, scanDown_go (p := fun x => !lt x d0[a]!) (by omega) (by omega) hT.2], by omega, by omega, hs⟩ (by omega)
        · have hF := and_F h66
          rw [scanDown_stop (p := fun x => !lt x d0[a]!) (fun hh => hF ⟨by omega, hh.2⟩)] at hj
          refine C.exit ?_
          refine X.thenExit ?_
          refine X.loopExit ?_
          refine X.blockExit ?_
          refine X.next ?_
          refine C.seq ?_
          refine C.seq ?_
          refine C.region ?_
          refine R.ev rfl (E.move rfl) ?_
          refine R.ev rfl (E.move rfl) ?_
          refine R.ev rfl (E.gtr rfl rfl) ?_
          refine R.done ?_
          refine X.keep [(0, _), (1, _), (4, _), (12, _), (13, _), (71, _)] ⟨rfl, rfl, rfl, rfl, rfl, rfl, trivial⟩ ?_
          refine X.next ?_
          refine C.cdec rfl (fun h71 => ?_) (fun h71 => ?_)
          · refine C.seq ?_
            refine C.drawn (SatS hs) ([7, 11], [0, 1, 2, 3, 4, 5, 6, 8, 9, 10, 12, 14]) (by kernel_rfl) ?_
            have hs := hs.drew
            have A1 := r1.el (K := K) (Hs := F1 :: Rs) (i := j) (by omega)
            have A2 := r1.el (K := K) (Hs := F1 :: Rs) (i := a) (by omega)
            refine D.evP 0 rfl (by kernel_rfl) rfl (fun _ => hs.to) (fun _ => E.move rfl) ?_
            refine D.evP 1 rfl (by kernel_rfl) rfl (fun _ => hs.to) (fun _ => E.move rfl) ?_
            refine D.evP 2 rfl (by kernel_rfl) rfl (fun _ => hs.to) (fun _ => E.move rfl) ?_
            refine D.evP 3 rfl (by kernel_rfl) rfl (fun _ => hs.to) (fun _ => E.move rfl) ?_
            refine D.evP 4 rfl (by kernel_rfl) rfl (fun _ => hs.to) (fun _ => E.move rfl) ?_
            refine D.evP 5 rfl (by kernel_rfl) rfl (fun _ => hs.to) (fun _ => E.move rfl) ?_
            refine D.evP 6 rfl (by kernel_rfl) rfl (fun _ => hs.to) (fun _ => E.indexAddr rfl rfl Tryz.underlying88 Tryz.sz50 rfl (by first | omega | decide)) ?_
            refine D.evP 8 rfl (by kernel_rfl) rfl (fun _ => hs.to) (fun _ => E.move rfl) ?_
            refine D.evP 9 rfl (by kernel_rfl) rfl (fun _ => hs.to) (fun _ => E.move rfl) ?_
            refine D.evP 10 rfl (by kernel_rfl) rfl (fun _ => hs.to) (fun _ => E.indexAddr rfl rfl Tryz.underlying88 Tryz.sz50 rfl (by first | omega | decide)) ?_
            refine D.ev 7 rfl (by kernel_rfl) rfl hs.to (fun _ hS => E.loadRowC rfl Tryz.underlying50 rfl Tryz.sz50 ⟨A2 _ hS, Enc.len _⟩) ?_
            refine D.ev 11 rfl (by kernel_rfl) rfl hs.to (fun _ hS => E.loadRowC rfl Tryz.underlying50 rfl Tryz.sz50 ⟨A1 _ hS, Enc.len _⟩) ?_
            refine D.evP 12 rfl (by kernel_rfl) rfl (fun _ => hs.to) (fun _ => E.indexAddr rfl rfl Tryz.underlying88 Tryz.sz50 rfl (by first | omega | decide)) ?_
            refine D.act 13 rfl (by kernel_rfl) ?_
            refine R.dset (j) hs (r1) rfl rfl Tryz.sz50 (by omega) ?_
            intro w8a F8a r8a hs
            refine D.backT (by kernel_rfl) ?_
            refine D.evP 14 rfl (by kernel_rfl) rfl (np (by kernel_rfl)) (fun _ => E.indexAddr rfl rfl Tryz.underlying88 Tryz.sz50 rfl (by first | omega | decide)) ?_
            refine D.act 15 rfl (by kernel_rfl) ?_
            refine R.dset (a) hs r8a rfl rfl Tryz.sz50 (by omega) ?_
            intro w8 F8 r8 hs
            refine D.backT (by kernel_rfl) ?_
            refine D.done rfl (by kernel_rfl) ?_
            refine X.keep [(13, _)] ⟨rfl, trivial⟩ ?_
            refine X.next ?_
            refine C.seq ?_
            refine C.region ?_
            refine R.ev rfl (E.move rfl) ?_
            refine R.ev rfl (E.assign rfl) ?_
            refine R.ev rfl (E.assign rfl) ?_
            refine R.done ?_
            refine X.keep [(10, _), (11, _)] ⟨rfl, rfl, trivial⟩ ?_
            refine X.next ?_
            refine C.ret ?_
            refine X.thenRet ?_
            refine X.ret2 rfl rfl rfl ?_
            rw [partition_yes hd0 hi.symm hj.symm (by omega)]
            exact ⟨rfl, F8, r8, hs⟩
          · refine C.skip ?_
            refine X.next ?_
            refine C.seq ?_
            refine C.drawn (SatS hs) ([7, 11], [0, 1, 2, 3, 4, 5, 6, 8, 9, 10, 12, 14]) (by kernel_rfl) ?_
            have hs := hs.drew
            have A1 := r1.el (K := K) (Hs := F1 :: Rs) (i := i) (by omega)
            have A2 := r1.el (K := K) (Hs := F1 :: Rs) (i := j) (by omega)
            refine D.evP 0 rfl (by kernel_rfl) rfl (fun _ => hs.to) (fun _ => E.move rfl) ?_
            refine D.evP 1 rfl (by kernel_rfl) rfl (fun _ => hs.to) (fun _ => E.move rfl) ?_
            refine D.evP 2 rfl (by kernel_rfl) rfl (fun _ => hs.to) (fun _ => E.move rfl) ?_
            refine D.evP 3 rfl (by kernel_rfl) rfl (fun _ => hs.to) (fun _ => E.move rfl) ?_
            refine D.evP 4 rfl (by kernel_rfl) rfl (fun _ => hs.to) (fun _ => E.move rfl) ?_
            refine D.evP 5 rfl (by kernel_rfl) rfl (fun _ => hs.to) (fun _ => E.move rfl) ?_
            refine D.evP 6 rfl (by kernel_rfl) rfl (fun _ => hs.to) (fun _ => E.indexAddr rfl rfl Tryz.underlying88 Tryz.sz50 rfl (by first | omega | decide)) ?_
            refine D.evP 8 rfl (by kernel_rfl) rfl (fun _ => hs.to) (fun _ => E.move rfl) ?_
            refine D.evP 9 rfl (by kernel_rfl) rfl (fun _ => hs.to) (fun _ => E.move rfl) ?_
            refine D.evP 10 rfl (by kernel_rfl) rfl (fun _ => hs.to) (fun _ => E.indexAddr rfl rfl Tryz.underlying88 Tryz.sz50 rfl (by first | omega | decide)) ?_
            refine D.ev 7 rfl (by kernel_rfl) rfl hs.to (fun _ hS => E.loadRowC rfl Tryz.underlying50 rfl Tryz.sz50 ⟨A2 _ hS, Enc.len _⟩) ?_
            refine D.ev 11 rfl (by kernel_rfl) rfl hs.to (fun _ hS => E.loadRowC rfl Tryz.underlying50 rfl Tryz.sz50 ⟨A1 _ hS, Enc.len _⟩) ?_
            refine D.evP 12 rfl (by kernel_rfl) rfl (fun _ => hs.to) (fun _ => E.indexAddr rfl rfl Tryz.underlying88 Tryz.sz50 rfl (by first | omega | decide)) ?_
            refine D.act 13 rfl (by kernel_rfl) ?_
            refine R.dset (i) hs (r1) rfl rfl Tryz.sz50 (by omega) ?_
            intro w10a F10a r10a hs
            refine D.backT (by kernel_rfl) ?_
            refine D.evP 14 rfl (by kernel_rfl) rfl (np (by kernel_rfl)) (fun _ => E.indexAddr rfl rfl Tryz.underlying88 Tryz.sz50 rfl (by first | omega | decide)) ?_
            refine D.act 15 rfl (by kernel_rfl) ?_
            refine R.dset (j) hs r10a rfl rfl Tryz.sz50 (by omega) ?_
            intro w10 F10 r10 hs
            refine D.backT (by kernel_rfl) ?_
            refine D.done rfl (by kernel_rfl) ?_
            refine X.keep [(0, _), (1, _), (4, _), (12, _), (13, _)] ⟨rfl, rfl, rfl, rfl, rfl, trivial⟩ ?_
            refine X.next ?_
            refine C.seq ?_
            refine C.region ?_
            refine R.ev rfl (E.move rfl) ?_
            refine R.ev rfl ((E.add rfl rfl (by omega) (by omega)).isI (c := ((i + 1 : Nat) : Int)) (by omega)) ?_
            refine R.ev rfl (E.assign rfl) ?_
            refine R.done ?_
            refine X.keep [(0, _), (1, _), (4, _), (12, _), (13, _)] ⟨rfl, rfl, rfl, rfl, rfl, trivial⟩ ?_
            refine X.next ?_
            refine C.seq ?_
            refine C.region ?_
            refine R.ev rfl (E.move rfl) ?_
            refine R.ev rfl ((E.sub rfl rfl (by omega) (by omega)).isI (c := ((j - 1 : Nat) : Int)) (by omega)) ?_
            refine R.ev rfl (E.assign rfl) ?_
            refine R.done ?_
            refine X.keep [(0, _), (1, _), (4, _), (12, _), (13, _)] ⟨rfl, rfl, rfl, rfl, rfl, trivial⟩ ?_
            refine X.next ?_
            refine C.seq ?_
            refine C.block ?_
            refine C.loop (T := Nat × Nat × Array HEnt × Hl) [(0, _), (1, _), (4, _)] (fun (i2, j2, _, _) => [(12, .int .i64 (i2 : Nat)), (13, .int .i64 (j2 : Nat))]) (fun (i2, j2, d2, F2) w' => partLoop lt a i2 j2 d2 = partLoop lt a (i + 1) (j - 1) (swp d0 i j) ∧ a + 1 ≤ i2 ∧ i2 ≤ b0 ∧ a ≤ j2 ∧ j2 ≤ b0 - 1 ∧ heA b m c0 d2 F2 ∧ Sat K w' (F2 :: Rs)) (fun (i2, j2, _) => j2 + 1 - i2) ((i + 1, j - 1, _, F10)) ⟨rfl, rfl, rfl, rfl, rfl, trivial⟩ ⟨rfl, by omega, by omega, by omega, by omega, r10, hs⟩ ?_
            rintro ⟨i2, j2, d2, F2⟩ w6 ⟨he, hai2, hi2b, haj2, hj2b, r2, hs⟩
            refine C.keep [(0, _), (1, _), (4, _), (12, _), (13, _)] ⟨rfl, rfl, rfl, rfl, rfl, trivial⟩ ?_
            refine C.block ?_
            refine C.seq ?_
            refine C.block ?_
            refine C.loop  [(0, _), (1, _), (4, _), (13, _)] (fun i3 => [(12, .int .i64 (i3 : Nat))]) (fun i3 w' => scanUp (fun x => lt x d2[a]!) d2 j2 i3 = scanUp (fun x => lt x d2[a]!) d2 j2 i2 ∧ i2 ≤ i3 ∧ i3 ≤ b0 ∧ Sat K w' (F2 :: Rs)) (fun i3 => b0 - i3) (i2) ⟨rfl, rfl, rfl, rfl, rfl, trivial⟩ ⟨rfl, by omega, by omega, hs⟩ ?_
            rintro i3 w7 ⟨hi3, hi23, hi3b, hs⟩
            refine C.keep [(0, _), (1, _), (4, _), (12, _), (13, _)] ⟨rfl, rfl, rfl, rfl, rfl, trivial⟩ ?_
            refine C.seq ?_
            refine C.seq ?_
            refine C.cut [(0, _), (1, _), (4, _), (12, _), (13, _)] (fun (_ : Unit) => [(120, .bool (decide (((i3 : Nat) : Int) ≤ ((j2 : Nat) : Int)) && lt d2[i3]! d2[a]!))]) (fun _ w' => Sat K w' (F2 :: Rs)) ⟨rfl, rfl, rfl, rfl, rfl, trivial⟩ ?_ ?_
            · refine C.drawn (SatS hs) ([8, 12], [0, 1, 2, 3, 4, 5, 6, 7, 9, 10, 11, 14, 15]) (by kernel_rfl) ?_
              have hs := hs.drew
              refine D.evP 0 rfl (by kernel_rfl) rfl (fun _ => hs.to) (fun _ => E.move rfl) ?_
              refine D.evP 1 rfl (by kernel_rfl) rfl (fun _ => hs.to) (fun _ => E.move rfl) ?_
              refine D.evP 2 rfl (by kernel_rfl) rfl (fun _ => hs.to) (fun _ => E.leq rfl rfl) ?_
              refine D.evP 3 rfl (by kernel_rfl) rfl (fun _ => hs.to) (fun _ => E.move rfl) ?_
              refine D.split 108 rfl (fun h108 => ?_) (fun h108 => ?_)
              · have h108' := of_decide_eq_true h108
                have A1 := r2.el (K := K) (Hs := F2 :: Rs) (i := i3) (by omega)
                have A2 := r2.el (K := K) (Hs := F2 :: Rs) (i := a) (by omega)
                refine D.evPG 4 rfl (by kernel_rfl) rfl rfl rfl (fun _ => hs.to) (fun _ => E.move rfl) ?_
                refine D.evPG 5 rfl (by kernel_rfl) rfl rfl rfl (fun _ => hs.to) (fun _ => E.move rfl) ?_
                refine D.evPG 6 rfl (by kernel_rfl) rfl rfl rfl (fun _ => hs.to) (fun _ => E.move rfl) ?_
                refine D.evPG 7 rfl (by kernel_rfl) rfl rfl rfl (fun _ => hs.to) (fun _ => E.indexAddr rfl rfl Tryz.underlying88 Tryz.sz50 rfl (by first | omega | decide)) ?_
                refine D.evPG 9 rfl (by kernel_rfl) rfl rfl rfl (fun _ => hs.to) (fun _ => E.move rfl) ?_
                refine D.evPG 10 rfl (by kernel_rfl) rfl rfl rfl (fun _ => hs.to) (fun _ => E.move rfl) ?_
                refine D.evPG 11 rfl (by kernel_rfl) rfl rfl rfl (fun _ => hs.to) (fun _ => E.indexAddr rfl rfl Tryz.underlying88 Tryz.sz50 rfl (by first | omega | decide)) ?_
                refine D.evG 8 rfl (by kernel_rfl) rfl rfl rfl hs.to (fun _ hS => E.loadRowC rfl Tryz.underlying50 rfl Tryz.sz50 ⟨A1 _ hS, Enc.len _⟩) ?_
                refine D.evG 12 rfl (by kernel_rfl) rfl rfl rfl hs.to (fun _ hS => E.loadRowC rfl Tryz.underlying50 rfl Tryz.sz50 ⟨A2 _ hS, Enc.len _⟩) ?_
                refine D.act 13 rfl (by kernel_rfl) ?_
                refine R.gyes rfl rfl ?_
                refine R.callV hf.1 rfl rfl rfl (hf.2 _ _ _ _ inferInstance hs) ?_
                rintro _ w13 ⟨cc13, rfl, hcc13, hs⟩
                refine D.backT (by kernel_rfl) ?_
                refine D.evPG 14 rfl (by kernel_rfl) rfl rfl rfl (np (by kernel_rfl)) (fun _ => (E.lss rfl rfl).isB (c := lt d2[i3]! d2[a]!) hcc13) ?_
                refine D.evP 15 rfl (by kernel_rfl) rfl (np (by kernel_rfl)) (fun _ => E.pickT rfl rfl) ?_
                refine D.done rfl (by kernel_rfl) ?_
                refine X.keep [(0, _), (1, _), (4, _), (12, _), (13, _), (120, _)] ⟨rfl, rfl, rfl, rfl, rfl, rfl, trivial⟩ ?_
                refine X.cut (()) ⟨lkV rfl ?_, rfl, rfl, rfl, rfl, rfl, trivial⟩ ?_
                · first | exact gT h108 | exact gF h108
                exact hs
              · refine D.skipP 4 rfl (by kernel_rfl) rfl rfl rfl (fun _ => hs.to) ?_
                refine D.skipP 5 rfl (by kernel_rfl) rfl rfl rfl (fun _ => hs.to) ?_
                refine D.skipP 6 rfl (by kernel_rfl) rfl rfl rfl (fun _ => hs.to) ?_
                refine D.skipP 7 rfl (by kernel_rfl) rfl rfl rfl (fun _ => hs.to) ?_
                refine D.skipP 9 rfl (by kernel_rfl) rfl rfl rfl (fun _ => hs.to) ?_
                refine D.skipP 10 rfl (by kernel_rfl) rfl rfl rfl (fun _ => hs.to) ?_
                refine D.skipP 11 rfl (by kernel_rfl) rfl rfl rfl (fun _ => hs.to) ?_
                refine D.skip 8 rfl (by kernel_rfl) rfl rfl rfl hs.to ?_
                refine D.skip 12 rfl (by kernel_rfl) rfl rfl rfl hs.to ?_
                refine D.act 13 rfl (by kernel_rfl) ?_
                refine R.gskip rfl rfl rfl ?_
                refine D.backT (by kernel_rfl) ?_
                refine D.skipP 14 rfl (by kernel_rfl) rfl rfl rfl (np (by kernel_rfl)) ?_
                refine D.evP 15 rfl (by kernel_rfl) rfl (np (by kernel_rfl)) (fun _ => E.pickF rfl rfl) ?_
                refine D.done rfl (by kernel_rfl) ?_
                refine X.keep [(0, _), (1, _), (4, _), (12, _), (13, _), (120, _)] ⟨rfl, rfl, rfl, rfl, rfl, rfl, trivial⟩ ?_
                refine X.cut (()) ⟨lkV rfl ?_, rfl, rfl, rfl, rfl, rfl, trivial⟩ ?_
                · first | exact gT h108 | exact gF h108
                exact hs
            · rintro _ w13 hs
              refine X.keep [(0, _), (1, _), (4, _), (12, _), (13, _), (120, _)] ⟨rfl, rfl, rfl, rfl, rfl, rfl, trivial⟩ ?_
              refine X.next ?_
              refine C.cbool rfl (fun h120 => ?_) (fun h120 => ?_)
              · have hT := and_T h120
                refine C.skip ?_
                refine X.next ?_
                refine C.block ?_
                refine C.region ?_
                refine R.ev rfl (E.move rfl) ?_
                refine R.ev rfl ((E.add rfl rfl (by omega) (by omega)).isI (c := ((i3 + 1 : Nat) : Int)) (by omega)) ?_
                refine R.ev rfl (E.assign rfl) ?_
                refine R.done ?_
                refine X.keep [(0, _), (1, _), (4, _), (12, _), (13, _)] ⟨rfl, rfl, rfl, rfl, rfl, trivial⟩ ?_
                refine X.blockNormal ?_
                exact X.again (i3 + 1) ⟨rfl, rfl, rfl, rfl, rfl, trivial⟩ ⟨by rw [← hi3, scanUp_go (p := fun x => lt x d2[a]!) (by omega) hT.2], by omega, by omega, hs⟩ (by omega)
              · have hF := and_F h120
                rw [scanUp_stop (p := fun x => lt x d2[a]!) (fun hh => hF ⟨by omega, hh.2⟩)] at hi3
                refine C.exit ?_
                refine X.thenExit ?_
                refine X.loopExit ?_
                refine X.blockExit ?_
                refine X.next ?_
                refine C.seq ?_
                refine C.block ?_
                refine C.loop  [(0, _), (1, _), (4, _), (12, _)] (fun j3 => [(13, .int .i64 (j3 : Nat))]) (fun j3 w' => scanDown (fun x => !lt x d2[a]!) d2 i3 j3 = scanDown (fun x => !lt x d2[a]!) d2 i3 j2 ∧ a ≤ j3 ∧ j3 ≤ j2 ∧ Sat K w' (F2 :: Rs)) (fun j3 => j3) (j2) ⟨rfl, rfl, rfl, rfl, rfl, trivial⟩ ⟨rfl, by omega, by omega, hs⟩ ?_
                rintro j3 w8 ⟨hj3, haj3, hj32, hs⟩
                refine C.keep [(0, _), (1, _), (4, _), (12, _), (13, _)] ⟨rfl, rfl, rfl, rfl, rfl, trivial⟩ ?_
                refine C.seq ?_
                refine C.seq ?_
                refine C.cut [(0, _), (1, _), (4, _), (12, _), (13, _)] (fun (_ : Unit) => [(139, .bool (decide (((i3 : Nat) : Int) ≤ ((j3 : Nat) : Int)) && !lt d2[j3]! d2[a]!))]) (fun _ w' => Sat K w' (F2 :: Rs)) ⟨rfl, rfl, rfl, rfl, rfl, trivial⟩ ?_ ?_
                · refine C.drawn (SatS hs) ([8, 12], [0, 1, 2, 3, 4, 5, 6, 7, 9, 10, 11, 14, 15, 16]) (by kernel_rfl) ?_
                  have hs := hs.drew
                  refine D.evP 0 rfl (by kernel_rfl) rfl (fun _ => hs.to) (fun _ => E.move rfl) ?_
                  refine D.evP 1 rfl (by kernel_rfl) rfl (fun _ => hs.to) (fun _ => E.move rfl) ?_
                  refine D.evP 2 rfl (by kernel_rfl) rfl (fun _ => hs.to) (fun _ => E.leq rfl rfl) ?_
                  refine D.evP 3 rfl (by kernel_rfl) rfl (fun _ => hs.to) (fun _ => E.move rfl) ?_
                  refine D.split 126 rfl (fun h126 => ?_) (fun h126 => ?_)
                  · have h126' := of_decide_eq_true h126
                    have A1 := r2.el (K := K) (Hs := F2 :: Rs) (i := j3) (by omega)
                    have A2 := r2.el (K := K) (Hs := F2 :: Rs) (i := a) (by omega)
                    refine D.evPG 4 rfl (by kernel_rfl) rfl rfl rfl (fun _ => hs.to) (fun _ => E.move rfl) ?_
                    refine D.evPG 5 rfl (by kernel_rfl) rfl rfl rfl (fun _ => hs.to) (fun _ => E.move rfl) ?_
                    refine D.evPG 6 rfl (by kernel_rfl) rfl rfl rfl (fun _ => hs.to) (fun _ => E.move rfl) ?_
                    refine D.evPG 7 rfl (by kernel_rfl) rfl rfl rfl (fun _ => hs.to) (fun _ => E.indexAddr rfl rfl Tryz.underlying88 Tryz.sz50 rfl (by first | omega | decide)) ?_
                    refine D.evPG 9 rfl (by kernel_rfl) rfl rfl rfl (fun _ => hs.to) (fun _ => E.move rfl) ?_
                    refine D.evPG 10 rfl (by kernel_rfl) rfl rfl rfl (fun _ => hs.to) (fun _ => E.move rfl) ?_
                    refine D.evPG 11 rfl (by kernel_rfl) rfl rfl rfl (fun _ => hs.to) (fun _ => E.indexAddr rfl rfl Tryz.underlying88 Tryz.sz50 rfl (by first | omega | decide)) ?_
                    refine D.evG 8 rfl (by kernel_rfl) rfl rfl rfl hs.to (fun _ hS => E.loadRowC rfl Tryz.underlying50 rfl Tryz.sz50 ⟨A1 _ hS, Enc.len _⟩) ?_
                    refine D.evG 12 rfl (by kernel_rfl) rfl rfl rfl hs.to (fun _ hS => E.loadRowC rfl Tryz.underlying50 rfl Tryz.sz50 ⟨A2 _ hS, Enc.len _⟩) ?_
                    refine D.act 13 rfl (by kernel_rfl) ?_
                    refine R.gyes rfl rfl ?_
                    refine R.callV hf.1 rfl rfl rfl (hf.2 _ _ _ _ inferInstance hs) ?_
                    rintro _ w15 ⟨cc15, rfl, hcc15, hs⟩
                    refine D.backT (by kernel_rfl) ?_
                    refine D.evPG 14 rfl (by kernel_rfl) rfl rfl rfl (np (by kernel_rfl)) (fun _ => (E.lss rfl rfl).isB (c := lt d2[j3]! d2[a]!) hcc15) ?_
                    refine D.evPG 15 rfl (by kernel_rfl) rfl rfl rfl (np (by kernel_rfl)) (fun _ => (E.not rfl).isB (c := !(lt d2[j3]! d2[a]!)) rfl) ?_
                    refine D.evP 16 rfl (by kernel_rfl) rfl (np (by kernel_rfl)) (fun _ => E.pickT rfl rfl) ?_
                    refine D.done rfl (by kernel_rfl) ?_
                    refine X.keep [(0, _), (1, _), (4, _), (12, _), (13, _), (139, _)] ⟨rfl, rfl, rfl, rfl, rfl, rfl, trivial⟩ ?_
                    refine X.cut (()) ⟨lkV rfl ?_, rfl, rfl, rfl, rfl, rfl, trivial⟩ ?_
                    · first | exact gT h126 | exact gF h126
                    exact hs
                  · refine D.skipP 4 rfl (by kernel_rfl) rfl rfl rfl (fun _ => hs.to) ?_
                    refine D.skipP 5 rfl (by kernel_rfl) rfl rfl rfl (fun _ => hs.to) ?_
                    refine D.skipP 6 rfl (by kernel_rfl) rfl rfl rfl (fun _ => hs.to) ?_
                    refine D.skipP 7 rfl (by kernel_rfl) rfl rfl rfl (fun _ => hs.to) ?_
                    refine D.skipP 9 rfl (by kernel_rfl) rfl rfl rfl (fun _ => hs.to) ?_
                    refine D.skipP 10 rfl (by kernel_rfl) rfl rfl rfl (fun _ => hs.to) ?_
                    refine D.skipP 11 rfl (by kernel_rfl) rfl rfl rfl (fun _ => hs.to) ?_
                    refine D.skip 8 rfl (by kernel_rfl) rfl rfl rfl hs.to ?_
                    refine D.skip 12 rfl (by kernel_rfl) rfl rfl rfl hs.to ?_
                    refine D.act 13 rfl (by kernel_rfl) ?_
                    refine R.gskip rfl rfl rfl ?_
                    refine D.backT (by kernel_rfl) ?_
                    refine D.skipP 14 rfl (by kernel_rfl) rfl rfl rfl (np (by kernel_rfl)) ?_
                    refine D.skipP 15 rfl (by kernel_rfl) rfl rfl rfl (np (by kernel_rfl)) ?_
                    refine D.evP 16 rfl (by kernel_rfl) rfl (np (by kernel_rfl)) (fun _ => E.pickF rfl rfl) ?_
                    refine D.done rfl (by kernel_rfl) ?_
                    refine X.keep [(0, _), (1, _), (4, _), (12, _), (13, _), (139, _)] ⟨rfl, rfl, rfl, rfl, rfl, rfl, trivial⟩ ?_
                    refine X.cut (()) ⟨lkV rfl ?_, rfl, rfl, rfl, rfl, rfl, trivial⟩ ?_
                    · first | exact gT h126 | exact gF h126
                    exact hs
                · rintro _ w15 hs
                  refine X.keep [(0, _), (1, _), (4, _), (12, _), (13, _), (139, _)] ⟨rfl, rfl, rfl, rfl, rfl, rfl, trivial⟩ ?_
                  refine X.next ?_
                  refine C.cbool rfl (fun h139 => ?_) (fun h139 => ?_)
                  · have hT := and_T h139
                    refine C.skip ?_
                    refine X.next ?_
                    refine C.block ?_
                    refine C.region ?_
                    refine R.ev rfl (E.move rfl) ?_
                    refine R.ev rfl ((E.sub rfl rfl (by omega) (by omega)).isI (c := ((j3 - 1 : Nat) : Int)) (by omega)) ?_
                    refine R.ev rfl (E.assign rfl) ?_
                    refine R.done ?_
                    refine X.keep [(0, _), (1, _), (4, _), (12, _), (13, _)] ⟨rfl, rfl, rfl, rfl, rfl, trivial⟩ ?_
                    refine X.blockNormal ?_
                    exact X.again (j3 - 1) ⟨rfl, rfl, rfl, rfl, rfl, trivial⟩ ⟨by rw [← hj3, scanDown_go (p := fun x => !lt x d2[a]!) (by omega) (by omega) hT.2], by omega, by omega, hs⟩ (by omega)
                  · have hF := and_F h139
                    rw [scanDown_stop (p := fun x => !lt x d2[a]!) (fun hh => hF ⟨by omega, hh.2⟩)] at hj3
                    refine C.exit ?_
                    refine X.thenExit ?_
                    refine X.loopExit ?_
                    refine X.blockExit ?_
                    refine X.next ?_
                    refine C.seq ?_
                    refine C.seq ?_
                    refine C.region ?_
                    refine R.ev rfl (E.move rfl) ?_
                    refine R.ev rfl (E.move rfl) ?_
                    refine R.ev rfl (E.gtr rfl rfl) ?_
                    refine R.done ?_
                    refine X.keep [(0, _), (1, _), (4, _), (12, _), (13, _), (144, _)] ⟨rfl, rfl, rfl, rfl, rfl, rfl, trivial⟩ ?_
                    refine X.next ?_
                    refine C.cdec rfl (fun h144 => ?_) (fun h144 => ?_)
                    · refine C.exit ?_
                      refine X.thenExit ?_
                      refine X.blockOther rfl ?_
                      refine X.loopExit ?_
                      refine X.blockExit ?_
                      refine X.next ?_
                      refine C.seq ?_
                      refine C.drawn (SatS hs) ([7, 11], [0, 1, 2, 3, 4, 5, 6, 8, 9, 10, 12, 14]) (by kernel_rfl) ?_
                      have hs := hs.drew
                      rw [partLoop_stop hi3.symm hj3.symm (by omega)] at he
                      have A1 := r2.el (K := K) (Hs := F2 :: Rs) (i := j3) (by omega)
                      have A2 := r2.el (K := K) (Hs := F2 :: Rs) (i := a) (by omega)
                      refine D.evP 0 rfl (by kernel_rfl) rfl (fun _ => hs.to) (fun _ => E.move rfl) ?_
                      refine D.evP 1 rfl (by kernel_rfl) rfl (fun _ => hs.to) (fun _ => E.move rfl) ?_
                      refine D.evP 2 rfl (by kernel_rfl) rfl (fun _ => hs.to) (fun _ => E.move rfl) ?_
                      refine D.evP 3 rfl (by kernel_rfl) rfl (fun _ => hs.to) (fun _ => E.move rfl) ?_
                      refine D.evP 4 rfl (by kernel_rfl) rfl (fun _ => hs.to) (fun _ => E.move rfl) ?_
                      refine D.evP 5 rfl (by kernel_rfl) rfl (fun _ => hs.to) (fun _ => E.move rfl) ?_
                      refine D.evP 6 rfl (by kernel_rfl) rfl (fun _ => hs.to) (fun _ => E.indexAddr rfl rfl Tryz.underlying88 Tryz.sz50 rfl (by first | omega | decide)) ?_
                      refine D.evP 8 rfl (by kernel_rfl) rfl (fun _ => hs.to) (fun _ => E.move rfl) ?_
                      refine D.evP 9 rfl (by kernel_rfl) rfl (fun _ => hs.to) (fun _ => E.move rfl) ?_
                      refine D.evP 10 rfl (by kernel_rfl) rfl (fun _ => hs.to) (fun _ => E.indexAddr rfl rfl Tryz.underlying88 Tryz.sz50 rfl (by first | omega | decide)) ?_
                      refine D.ev 7 rfl (by kernel_rfl) rfl hs.to (fun _ hS => E.loadRowC rfl Tryz.underlying50 rfl Tryz.sz50 ⟨A2 _ hS, Enc.len _⟩) ?_
                      refine D.ev 11 rfl (by kernel_rfl) rfl hs.to (fun _ hS => E.loadRowC rfl Tryz.underlying50 rfl Tryz.sz50 ⟨A1 _ hS, Enc.len _⟩) ?_
                      refine D.evP 12 rfl (by kernel_rfl) rfl (fun _ => hs.to) (fun _ => E.indexAddr rfl rfl Tryz.underlying88 Tryz.sz50 rfl (by first | omega | decide)) ?_
                      refine D.act 13 rfl (by kernel_rfl) ?_
                      refine R.dset (j3) hs (r2) rfl rfl Tryz.sz50 (by omega) ?_
                      intro w21a F21a r21a hs
                      refine D.backT (by kernel_rfl) ?_
                      refine D.evP 14 rfl (by kernel_rfl) rfl (np (by kernel_rfl)) (fun _ => E.indexAddr rfl rfl Tryz.underlying88 Tryz.sz50 rfl (by first | omega | decide)) ?_
                      refine D.act 15 rfl (by kernel_rfl) ?_
                      refine R.dset (a) hs r21a rfl rfl Tryz.sz50 (by omega) ?_
                      intro w21 F21 r21 hs
                      refine D.backT (by kernel_rfl) ?_
                      refine D.done rfl (by kernel_rfl) ?_
                      refine X.keep [(13, _)] ⟨rfl, trivial⟩ ?_
                      refine X.next ?_
                      refine C.seq ?_
                      refine C.region ?_
                      refine R.ev rfl (E.move rfl) ?_
                      refine R.ev rfl (E.assign rfl) ?_
                      refine R.ev rfl (E.assign rfl) ?_
                      refine R.done ?_
                      refine X.keep [(10, _), (11, _)] ⟨rfl, rfl, trivial⟩ ?_
                      refine X.next ?_
                      refine C.ret ?_
                      refine X.ret2 rfl rfl rfl ?_
                      rw [partition_no hd0 hi.symm hj.symm (by omega) he.symm]
                      exact ⟨rfl, F21, r21, hs⟩
                    · refine C.skip ?_
                      refine X.next ?_
                      refine C.seq ?_
                      refine C.drawn (SatS hs) ([7, 11], [0, 1, 2, 3, 4, 5, 6, 8, 9, 10, 12, 14]) (by kernel_rfl) ?_
                      have hs := hs.drew
                      have A1 := r2.el (K := K) (Hs := F2 :: Rs) (i := i3) (by omega)
                      have A2 := r2.el (K := K) (Hs := F2 :: Rs) (i := j3) (by omega)
                      refine D.evP 0 rfl (by kernel_rfl) rfl (fun _ => hs.to) (fun _ => E.move rfl) ?_
                      refine D.evP 1 rfl (by kernel_rfl) rfl (fun _ => hs.to) (fun _ => E.move rfl) ?_
                      refine D.evP 2 rfl (by kernel_rfl) rfl (fun _ => hs.to) (fun _ => E.move rfl) ?_
                      refine D.evP 3 rfl (by kernel_rfl) rfl (fun _ => hs.to) (fun _ => E.move rfl) ?_
                      refine D.evP 4 rfl (by kernel_rfl) rfl (fun _ => hs.to) (fun _ => E.move rfl) ?_
                      refine D.evP 5 rfl (by kernel_rfl) rfl (fun _ => hs.to) (fun _ => E.move rfl) ?_
                      refine D.evP 6 rfl (by kernel_rfl) rfl (fun _ => hs.to) (fun _ => E.indexAddr rfl rfl Tryz.underlying88 Tryz.sz50 rfl (by first | omega | decide)) ?_
                      refine D.evP 8 rfl (by kernel_rfl) rfl (fun _ => hs.to) (fun _ => E.move rfl) ?_
                      refine D.evP 9 rfl (by kernel_rfl) rfl (fun _ => hs.to) (fun _ => E.move rfl) ?_
                      refine D.evP 10 rfl (by kernel_rfl) rfl (fun _ => hs.to) (fun _ => E.indexAddr rfl rfl Tryz.underlying88 Tryz.sz50 rfl (by first | omega | decide)) ?_
                      refine D.ev 7 rfl (by kernel_rfl) rfl hs.to (fun _ hS => E.loadRowC rfl Tryz.underlying50 rfl Tryz.sz50 ⟨A2 _ hS, Enc.len _⟩) ?_
                      refine D.ev 11 rfl (by kernel_rfl) rfl hs.to (fun _ hS => E.loadRowC rfl Tryz.underlying50 rfl Tryz.sz50 ⟨A1 _ hS, Enc.len _⟩) ?_
                      refine D.evP 12 rfl (by kernel_rfl) rfl (fun _ => hs.to) (fun _ => E.indexAddr rfl rfl Tryz.underlying88 Tryz.sz50 rfl (by first | omega | decide)) ?_
                      refine D.act 13 rfl (by kernel_rfl) ?_
                      refine R.dset (i3) hs (r2) rfl rfl Tryz.sz50 (by omega) ?_
                      intro w18a F18a r18a hs
                      refine D.backT (by kernel_rfl) ?_
                      refine D.evP 14 rfl (by kernel_rfl) rfl (np (by kernel_rfl)) (fun _ => E.indexAddr rfl rfl Tryz.underlying88 Tryz.sz50 rfl (by first | omega | decide)) ?_
                      refine D.act 15 rfl (by kernel_rfl) ?_
                      refine R.dset (j3) hs r18a rfl rfl Tryz.sz50 (by omega) ?_
                      intro w18 F18 r18 hs
                      refine D.backT (by kernel_rfl) ?_
                      refine D.done rfl (by kernel_rfl) ?_
                      refine X.keep [(0, _), (1, _), (4, _), (12, _), (13, _)] ⟨rfl, rfl, rfl, rfl, rfl, trivial⟩ ?_
                      refine X.next ?_
                      refine C.seq ?_
                      refine C.region ?_
                      refine R.ev rfl (E.move rfl) ?_
                      refine R.ev rfl ((E.add rfl rfl (by omega) (by omega)).isI (c := ((i3 + 1 : Nat) : Int)) (by omega)) ?_
                      refine R.ev rfl (E.assign rfl) ?_
                      refine R.done ?_
                      refine X.keep [(0, _), (1, _), (4, _), (12, _), (13, _)] ⟨rfl, rfl, rfl, rfl, rfl, trivial⟩ ?_
                      refine X.next ?_
                      refine C.region ?_
                      refine R.ev rfl (E.move rfl) ?_
                      refine R.ev rfl ((E.sub rfl rfl (by omega) (by omega)).isI (c := ((j3 - 1 : Nat) : Int)) (by omega)) ?_
                      refine R.ev rfl (E.assign rfl) ?_
                      refine R.done ?_
                      refine X.keep [(0, _), (1, _), (4, _), (12, _), (13, _)] ⟨rfl, rfl, rfl, rfl, rfl, trivial⟩ ?_
                      refine X.blockNormal ?_
                      exact X.again (i3 + 1, j3 - 1, _, F18) ⟨rfl, rfl, rfl, rfl, rfl, trivial⟩ ⟨by rw [← he, partLoop_go hi3.symm hj3.symm (by omega)]; rfl, by omega, by omega, by omega, by omega, r18, hs⟩ (by show _ - _ < _ - _; omega)
theorem hepartEq_any (hf : heCmp K Rs fid fst cps lt) (a b0 pv : Nat) (hs : Sat K w (F :: Rs)) (hr : heA b m c0 d F) (hap : a ≤ pv) (hpb : pv < b0) (hb : b0 ≤ m) (hm : m ≤ 1000000000) :
    Ret Tryz.prog 93 #[.slice (some ⟨b, 0, none⟩) m c0, .int .i64 (a : Nat), .int .i64 (b0 : Nat), .int .i64 (pv : Nat), .func (.func fid) fst.toArray cps.toArray] w fun r w' => r = .int .i64 ((partitionEqual lt d a b0 pv).1 : Nat) ∧ ∃ F', heA b m c0 (partitionEqual lt d a b0 pv).2 F' ∧ Sat K w' (F' :: Rs) := by
  refine Ret.enter (n := 90) (args := [.slice (some ⟨b, 0, none⟩) m c0, .int .i64 (a : Nat), .int .i64 (b0 : Nat), .int .i64 (pv : Nat), .func (.func fid) fst.toArray cps.toArray]) Tryz.func93 rfl rfl ?_
  refine C.keep [(0, _), (1, _), (2, _), (3, _), (4, _)] ⟨rfl, rfl, rfl, rfl, rfl, trivial⟩ ?_
  refine C.seq ?_
  refine C.region ?_
  refine R.ev rfl (E.assign rfl) ?_
  refine R.done ?_
  refine X.keep [(0, _), (1, _), (2, _), (3, _), (4, _)] ⟨rfl, rfl, rfl, rfl, rfl, trivial⟩ ?_
  refine X.next ?_
  refine C.seq ?_
  refine C.drawn (SatS hs) ([7, 11], [0, 1, 2, 3, 4, 5, 6, 8, 9, 10, 12, 14]) (by kernel_rfl) ?_
  have hs := hs.drew
  have A1 := hr.el (K := K) (Hs := F :: Rs) (i := a) (by omega)
  have A2 := hr.el (K := K) (Hs := F :: Rs) (i := pv) (by omega)
  refine D.evP 0 rfl (by kernel_rfl) rfl (fun _ => hs.to) (fun _ => E.move rfl) ?_
  refine D.evP 1 rfl (by kernel_rfl) rfl (fun _ => hs.to) (fun _ => E.move rfl) ?_
  refine D.evP 2 rfl (by kernel_rfl) rfl (fun _ => hs.to) (fun _ => E.move rfl) ?_
  refine D.evP 3 rfl (by kernel_rfl) rfl (fun _ => hs.to) (fun _ => E.move rfl) ?_
  refine D.evP 4 rfl (by kernel_rfl) rfl (fun _ => hs.to) (fun _ => E.move rfl) ?_
  refine D.evP 5 rfl (by kernel_rfl) rfl (fun _ => hs.to) (fun _ => E.move rfl) ?_
  refine D.evP 6 rfl (by kernel_rfl) rfl (fun _ => hs.to) (fun _ => E.indexAddr rfl rfl Tryz.underlying88 Tryz.sz50 rfl (by first | omega | decide)) ?_
  refine D.evP 8 rfl (by kernel_rfl) rfl (fun _ => hs.to) (fun _ => E.move rfl) ?_
  refine D.evP 9 rfl (by kernel_rfl) rfl (fun _ => hs.to) (fun _ => E.move rfl) ?_
  refine D.evP 10 rfl (by kernel_rfl) rfl (fun _ => hs.to) (fun _ => E.indexAddr rfl rfl Tryz.underlying88 Tryz.sz50 rfl (by first | omega | decide)) ?_
  refine D.ev 7 rfl (by kernel_rfl) rfl hs.to (fun _ hS => E.loadRowC rfl Tryz.underlying50 rfl Tryz.sz50 ⟨A2 _ hS, Enc.len _⟩) ?_
  refine D.ev 11 rfl (by kernel_rfl) rfl hs.to (fun _ hS => E.loadRowC rfl Tryz.underlying50 rfl Tryz.sz50 ⟨A1 _ hS, Enc.len _⟩) ?_
  refine D.evP 12 rfl (by kernel_rfl) rfl (fun _ => hs.to) (fun _ => E.indexAddr rfl rfl Tryz.underlying88 Tryz.sz50 rfl (by first | omega | decide)) ?_
  refine D.act 13 rfl (by kernel_rfl) ?_
  refine R.dset (a) hs (hr) rfl rfl Tryz.sz50 (by omega) ?_
  intro w1a F1a r1a hs
  refine D.backT (by kernel_rfl) ?_
  refine D.evP 14 rfl (by kernel_rfl) rfl (np (by kernel_rfl)) (fun _ => E.indexAddr rfl rfl Tryz.underlying88 Tryz.sz50 rfl (by first | omega | decide)) ?_
  refine D.act 15 rfl (by kernel_rfl) ?_
  refine R.dset (pv) hs r1a rfl rfl Tryz.sz50 (by omega) ?_
  intro w1 F1 r1 hs
  refine D.backT (by kernel_rfl) ?_
  refine D.done rfl (by kernel_rfl) ?_
  refine X.keep [(0, _), (1, _), (2, _), (4, _)] ⟨rfl, rfl, rfl, rfl, trivial⟩ ?_
  refine X.next ?_
  refine C.seq ?_
  refine C.region ?_
  refine R.ev rfl (E.move rfl) ?_
  refine R.ev rfl ((E.add rfl rfl (by omega) (by omega)).isI (c := ((a + 1 : Nat) : Int)) (by omega)) ?_
  refine R.ev rfl (E.move rfl) ?_
  refine R.ev rfl ((E.sub rfl rfl (by omega) (by omega)).isI (c := ((b0 - 1 : Nat) : Int)) (by omega)) ?_
  refine R.ev rfl (E.assign rfl) ?_
  refine R.ev rfl (E.assign rfl) ?_
  refine R.done ?_
  refine X.keep [(0, _), (1, _), (4, _), (11, _), (12, _)] ⟨rfl, rfl, rfl, rfl, rfl, trivial⟩ ?_
  refine X.next ?_
  refine C.seq ?_
  refine C.block ?_
  refine C.loop (T := Nat × Nat × Array HEnt × Hl) [(0, _), (1, _), (4, _)] (fun (i2, j2, _, _) => [(11, .int .i64 (i2 : Nat)), (12, .int .i64 (j2 : Nat))]) (fun (i2, j2, d2, F2) w' => partEqLoop lt a i2 j2 d2 = partitionEqual lt d a b0 pv ∧ a + 1 ≤ i2 ∧ i2 ≤ b0 ∧ a ≤ j2 ∧ j2 ≤ b0 - 1 ∧ heA b m c0 d2 F2 ∧ Sat K w' (F2 :: Rs)) (fun (i2, j2, _) => j2 + 1 - i2) ((a + 1, b0 - 1, _, F1)) ⟨rfl, rfl, rfl, rfl, rfl, trivial⟩ ⟨rfl, by omega, by omega, by omega, by omega, r1, hs⟩ ?_
  rintro ⟨i2, j2, d2, F2⟩ w6 ⟨he, hai2, hi2b, haj2, hj2b, r2, hs⟩
  refine C.keep [(0, _), (1, _), (4, _), (11, _), (12, _)] ⟨rfl, rfl, rfl, rfl, rfl, trivial⟩ ?_
  refine C.block ?_
  refine C.seq ?_
  refine C.block ?_
  refine C.loop  [(0, _), (1, _), (4, _), (12, _)] (fun i3 => [(11, .int .i64 (i3 : Nat))]) (fun i3 w' => scanUp (fun x => !lt d2[a]! x) d2 j2 i3 = scanUp (fun x => !lt d2[a]! x) d2 j2 i2 ∧ i2 ≤ i3 ∧ i3 ≤ b0 ∧ Sat K w' (F2 :: Rs)) (fun i3 => b0 - i3) (i2) ⟨rfl, rfl, rfl, rfl, rfl, trivial⟩ ⟨rfl, by omega, by omega, hs⟩ ?_
  rintro i3 w7 ⟨hi3, hi23, hi3b, hs⟩
  refine C.keep [(0, _), (1, _), (4, _), (11, _), (12, _)] ⟨rfl, rfl, rfl, rfl, rfl, trivial⟩ ?_
  refine C.seq ?_
  refine C.seq ?_
  refine C.cut [(0, _), (1, _), (4, _), (11, _), (12, _)] (fun (_ : Unit) => [(47, .bool (decide (((i3 : Nat) : Int) ≤ ((j2 : Nat) : Int)) && !lt d2[a]! d2[i3]!))]) (fun _ w' => Sat K w' (F2 :: Rs)) ⟨rfl, rfl, rfl, rfl, rfl, trivial⟩ ?_ ?_
  · refine C.drawn (SatS hs) ([8, 12], [0, 1, 2, 3, 4, 5, 6, 7, 9, 10, 11, 14, 15, 16]) (by kernel_rfl) ?_
    have hs := hs.drew
    refine D.evP 0 rfl (by kernel_rfl) rfl (fun _ => hs.to) (fun _ => E.move rfl) ?_
    refine D.evP 1 rfl (by kernel_rfl) rfl (fun _ => hs.to) (fun _ => E.move rfl) ?_
    refine D.evP 2 rfl (by kernel_rfl) rfl (fun _ => hs.to) (fun _ => E.leq rfl rfl) ?_
    refine D.evP 3 rfl (by kernel_rfl) rfl (fun _ => hs.to) (fun _ => E.move rfl) ?_
    refine D.split 34 rfl (fun h34 => ?_) (fun h34 => ?_)
    · have h34' := of_decide_eq_true h34
      have A1 := r2.el (K := K) (Hs := F2 :: Rs) (i := i3) (by omega)
      have A2 := r2.el (K := K) (Hs := F2 :: Rs) (i := a) (by omega)
      refine D.evPG 4 rfl (by kernel_rfl) rfl rfl rfl (fun _ => hs.to) (fun _ => E.move rfl) ?_
      refine D.evPG 5 rfl (by kernel_rfl) rfl rfl rfl (fun _ => hs.to) (fun _ => E.move rfl) ?_
      refine D.evPG 6 rfl (by kernel_rfl) rfl rfl rfl (fun _ => hs.to) (fun _ => E.move rfl) ?_
      refine D.evPG 7 rfl (by kernel_rfl) rfl rfl rfl (fun _ => hs.to) (fun _ => E.indexAddr rfl rfl Tryz.underlying88 Tryz.sz50 rfl (by first | omega | decide)) ?_
      refine D.evPG 9 rfl (by kernel_rfl) rfl rfl rfl (fun _ => hs.to) (fun _ => E.move rfl) ?_
      refine D.evPG 10 rfl (by kernel_rfl) rfl rfl rfl (fun _ => hs.to) (fun _ => E.move rfl) ?_
      refine D.evPG 11 rfl (by kernel_rfl) rfl rfl rfl (fun _ => hs.to) (fun _ => E.indexAddr rfl rfl Tryz.underlying88 Tryz.sz50 rfl (by first | omega | decide)) ?_
      refine D.evG 8 rfl (by kernel_rfl) rfl rfl rfl hs.to (fun _ hS => E.loadRowC rfl Tryz.underlying50 rfl Tryz.sz50 ⟨A2 _ hS, Enc.len _⟩) ?_
      refine D.evG 12 rfl (by kernel_rfl) rfl rfl rfl hs.to (fun _ hS => E.loadRowC rfl Tryz.underlying50 rfl Tryz.sz50 ⟨A1 _ hS, Enc.len _⟩) ?_
      refine D.act 13 rfl (by kernel_rfl) ?_
      refine R.gyes rfl rfl ?_
      refine R.callV hf.1 rfl rfl rfl (hf.2 _ _ _ _ inferInstance hs) ?_
      rintro _ w3 ⟨cc3, rfl, hcc3, hs⟩
      refine D.backT (by kernel_rfl) ?_
      refine D.evPG 14 rfl (by kernel_rfl) rfl rfl rfl (np (by kernel_rfl)) (fun _ => (E.lss rfl rfl).isB (c := lt d2[a]! d2[i3]!) hcc3) ?_
      refine D.evPG 15 rfl (by kernel_rfl) rfl rfl rfl (np (by kernel_rfl)) (fun _ => (E.not rfl).isB (c := !(lt d2[a]! d2[i3]!)) rfl) ?_
      refine D.evP 16 rfl (by kernel_rfl) rfl (np (by kernel_rfl)) (fun _ => E.pickT rfl rfl) ?_
      refine D.done rfl (by kernel_rfl) ?_
      refine X.keep [(0, _), (1, _), (4, _), (11, _), (12, _), (47, _)] ⟨rfl, rfl, rfl, rfl, rfl, rfl, trivial⟩ ?_
      refine X.cut (()) ⟨lkV rfl ?_, rfl, rfl, rfl, rfl, rfl, trivial⟩ ?_
      · first | exact gT h34 | exact gF h34
      exact hs
    · refine D.skipP 4 rfl (by kernel_rfl) rfl rfl rfl (fun _ => hs.to) ?_
      refine D.skipP 5 rfl (by kernel_rfl) rfl rfl rfl (fun _ => hs.to) ?_
      refine D.skipP 6 rfl (by kernel_rfl) rfl rfl rfl (fun _ => hs.to) ?_
      refine D.skipP 7 rfl (by kernel_rfl) rfl rfl rfl (fun _ => hs.to) ?_
      refine D.skipP 9 rfl (by kernel_rfl) rfl rfl rfl (fun _ => hs.to) ?_
      refine D.skipP 10 rfl (by kernel_rfl) rfl rfl rfl (fun _ => hs.to) ?_
      refine D.skipP 11 rfl (by kernel_rfl) rfl rfl rfl (fun _ => hs.to) ?_
      refine D.skip 8 rfl (by kernel_rfl) rfl rfl rfl hs.to ?_
      refine D.skip 12 rfl (by kernel_rfl) rfl rfl rfl hs.to ?_
      refine D.act 13 rfl (by kernel_rfl) ?_
      refine R.gskip rfl rfl rfl ?_
      refine D.backT (by kernel_rfl) ?_
      refine D.skipP 14 rfl (by kernel_rfl) rfl rfl rfl (np (by kernel_rfl)) ?_
      refine D.skipP 15 rfl (by kernel_rfl) rfl rfl rfl (np (by kernel_rfl)) ?_
      refine D.evP 16 rfl (by kernel_rfl) rfl (np (by kernel_rfl)) (fun _ => E.pickF rfl rfl) ?_
      refine D.done rfl (by kernel_rfl) ?_
      refine X.keep [(0, _), (1, _), (4, _), (11, _), (12, _), (47, _)] ⟨rfl, rfl, rfl, rfl, rfl, rfl, trivial⟩ ?_
      refine X.cut (()) ⟨lkV rfl ?_, rfl, rfl, rfl, rfl, rfl, trivial⟩ ?_
      · first | exact gT h34 | exact gF h34
      exact hs
  · rintro _ w13 hs
    refine X.keep [(0, _), (1, _), (4, _), (11, _), (12, _), (47, _)] ⟨rfl, rfl, rfl, rfl, rfl, rfl, trivial⟩ ?_
    refine X.next ?_
    refine C.cbool rfl (fun h47 => ?_) (fun h47 => ?_)
    · have hT := and_T h47
      refine C.skip ?_
      refine X.next ?_
      refine C.block ?_
      refine C.region ?_
      refine R.ev rfl (E.move rfl) ?_
      refine R.ev rfl ((E.add rfl rfl (by omega) (by omega)).isI (c := ((i3 + 1 : Nat) : Int)) (by omega)) ?_
      refine R.ev rfl (E.assign rfl) ?_
      refine R.done ?_
      refine X.keep [(0, _), (1, _), (4, _), (11, _), (12, _)] ⟨rfl, rfl, rfl, rfl, rfl, trivial⟩ ?_
      refine X.blockNormal ?_
      exact X.again (i3 + 1) ⟨rfl, rfl, rfl, rfl, rfl, trivial⟩ ⟨by rw [← hi3, scanUp_go (p := fun x => !lt d2[a]! x) (by omega) hT.2], by omega, by omega, hs⟩ (by omega)
    · have hF := and_F h47
      rw [scanUp_stop (p := fun x => !lt d2[a]! x) (fun hh => hF ⟨by omega, hh.2⟩)] at hi3
      refine C.exit ?_
      refine X.thenExit ?_
      refine X.loopExit ?_
      refine X.blockExit ?_
      refine X.next ?_
      refine C.seq ?_
      refine C.block ?_
      refine C.loop  [(0, _), (1, _), (4, _), (11, _)] (fun j3 => [(12, .int .i64 (j3 : Nat))]) (fun j3 w' => scanDown (fun x => lt d2[a]! x) d2 i3 j3 = scanDown (fun x => lt d2[a]! x) d2 i3 j2 ∧ a ≤ j3 ∧ j3 ≤ j2 ∧ Sat K w' (F2 :: Rs)) (fun j3 => j3) (j2) ⟨rfl, rfl, rfl, rfl, rfl, trivial⟩ ⟨rfl, by omega, by omega, hs⟩ ?_
      rintro j3 w8 ⟨hj3, haj3, hj32, hs⟩
      refine C.keep [(0, _), (1, _), (4, _), (11, _), (12, _)] ⟨rfl, rfl, rfl, rfl, rfl, trivial⟩ ?_
      refine C.seq ?_
      refine C.seq ?_
      refine C.cut [(0, _), (1, _), (4, _), (11, _), (12, _)] (fun (_ : Unit) => [(65, .bool (decide (((i3 : Nat) : Int) ≤ ((j3 : Nat) : Int)) && lt d2[a]! d2[j3]!))]) (fun _ w' => Sat K w' (F2 :: Rs)) ⟨rfl, rfl, rfl, rfl, rfl, trivial⟩ ?_ ?_
      · refine C.drawn (SatS hs) ([8, 12], [0, 1, 2, 3, 4, 5, 6, 7, 9, 10, 11, 14, 15]) (by kernel_rfl) ?_
        have hs := hs.drew
        refine D.evP 0 rfl (by kernel_rfl) rfl (fun _ => hs.to) (fun _ => E.move rfl) ?_
        refine D.evP 1 rfl (by kernel_rfl) rfl (fun _ => hs.to) (fun _ => E.move rfl) ?_
        refine D.evP 2 rfl (by kernel_rfl) rfl (fun _ => hs.to) (fun _ => E.leq rfl rfl) ?_
        refine D.evP 3 rfl (by kernel_rfl) rfl (fun _ => hs.to) (fun _ => E.move rfl) ?_
        refine D.split 53 rfl (fun h53 => ?_) (fun h53 => ?_)
        · have h53' := of_decide_eq_true h53
          have A1 := r2.el (K := K) (Hs := F2 :: Rs) (i := j3) (by omega)
          have A2 := r2.el (K := K) (Hs := F2 :: Rs) (i := a) (by omega)
          refine D.evPG 4 rfl (by kernel_rfl) rfl rfl rfl (fun _ => hs.to) (fun _ => E.move rfl) ?_
          refine D.evPG 5 rfl (by kernel_rfl) rfl rfl rfl (fun _ => hs.to) (fun _ => E.move rfl) ?_
          refine D.evPG 6 rfl (by kernel_rfl) rfl rfl rfl (fun _ => hs.to) (fun _ => E.move rfl) ?_
          refine D.evPG 7 rfl (by kernel_rfl) rfl rfl rfl (fun _ => hs.to) (fun _ => E.indexAddr rfl rfl Tryz.underlying88 Tryz.sz50 rfl (by first | omega | decide)) ?_
          refine D.evPG 9 rfl (by kernel_rfl) rfl rfl rfl (fun _ => hs.to) (fun _ => E.move rfl) ?_
          refine D.evPG 10 rfl (by kernel_rfl) rfl rfl rfl (fun _ => hs.to) (fun _ => E.move rfl) ?_
          refine D.evPG 11 rfl (by kernel_rfl) rfl rfl rfl (fun _ => hs.to) (fun _ => E.indexAddr rfl rfl Tryz.underlying88 Tryz.sz50 rfl (by first | omega | decide)) ?_
          refine D.evG 8 rfl (by kernel_rfl) rfl rfl rfl hs.to (fun _ hS => E.loadRowC rfl Tryz.underlying50 rfl Tryz.sz50 ⟨A2 _ hS, Enc.len _⟩) ?_
          refine D.evG 12 rfl (by kernel_rfl) rfl rfl rfl hs.to (fun _ hS => E.loadRowC rfl Tryz.underlying50 rfl Tryz.sz50 ⟨A1 _ hS, Enc.len _⟩) ?_
          refine D.act 13 rfl (by kernel_rfl) ?_
          refine R.gyes rfl rfl ?_
          refine R.callV hf.1 rfl rfl rfl (hf.2 _ _ _ _ inferInstance hs) ?_
          rintro _ w5 ⟨cc5, rfl, hcc5, hs⟩
          refine D.backT (by kernel_rfl) ?_
          refine D.evPG 14 rfl (by kernel_rfl) rfl rfl rfl (np (by kernel_rfl)) (fun _ => (E.lss rfl rfl).isB (c := lt d2[a]! d2[j3]!) hcc5) ?_
          refine D.evP 15 rfl (by kernel_rfl) rfl (np (by kernel_rfl)) (fun _ => E.pickT rfl rfl) ?_
          refine D.done rfl (by kernel_rfl) ?_
          refine X.keep [(0, _), (1, _), (4, _), (11, _), (12, _), (65, _)] ⟨rfl, rfl, rfl, rfl, rfl, rfl, trivial⟩ ?_
          refine X.cut (()) ⟨lkV rfl ?_, rfl, rfl, rfl, rfl, rfl, trivial⟩ ?_
          · first | exact gT h53 | exact gF h53
          exact hs
        · refine D.skipP 4 rfl (by kernel_rfl) rfl rfl rfl (fun _ => hs.to) ?_
          refine D.skipP 5 rfl (by kernel_rfl) rfl rfl rfl (fun _ => hs.to) ?_
          refine D.skipP 6 rfl (by kernel_rfl) rfl rfl rfl (fun _ => hs.to) ?_
          refine D.skipP 7 rfl (by kernel_rfl) rfl rfl rfl (fun _ => hs.to) ?_
          refine D.skipP 9 rfl (by kernel_rfl) rfl rfl rfl (fun _ => hs.to) ?_
          refine D.skipP 10 rfl (by kernel_rfl) rfl rfl rfl (fun _ => hs.to) ?_
          refine D.skipP 11 rfl (by kernel_rfl) rfl rfl rfl (fun _ => hs.to) ?_
          refine D.skip 8 rfl (by kernel_rfl) rfl rfl rfl hs.to ?_
          refine D.skip 12 rfl (by kernel_rfl) rfl rfl rfl hs.to ?_
          refine D.act 13 rfl (by kernel_rfl) ?_
          refine R.gskip rfl rfl rfl ?_
          refine D.backT (by kernel_rfl) ?_
          refine D.skipP 14 rfl (by kernel_rfl) rfl rfl rfl (np (by kernel_rfl)) ?_
          refine D.evP 15 rfl (by kernel_rfl) rfl (np (by kernel_rfl)) (fun _ => E.pickF rfl rfl) ?_
          refine D.done rfl (by kernel_rfl) ?_
          refine X.keep [(0, _), (1, _), (4, _), (11, _), (12, _), (65, _)] ⟨rfl, rfl, rfl, rfl, rfl, rfl, trivial⟩ ?_
          refine X.cut (()) ⟨lkV rfl ?_, rfl, rfl, rfl, rfl, rfl, trivial⟩ ?_
          · first | exact gT h53 | exact gF h53
          exact hs
      · rintro _ w15 hs
        refine X.keep [(0, _), (1, _), (4, _), (11, _), (12, _), (65, _)] ⟨rfl, rfl, rfl, rfl, rfl, rfl, trivial⟩ ?_
        refine X.next ?_
        refine C.cbool rfl (fun h65 => ?_) (fun h65 => ?_)
        · have hT := and_T h65
          refine C.skip ?_
          refine X.next ?_
          refine C.block ?_
          refine C.region ?_
          refine R.ev rfl (E.move rfl) ?_
          refine R.ev rfl ((E.sub rfl rfl (by omega) (by omega)).isI (c := ((j3 - 1 : Nat) : Int)) (by omega)) ?_
          refine R.ev rfl (E.assign rfl) ?_
          refine R.done ?_
          refine X.keep [(0, _), (1, _), (4, _), (11, _), (12, _)] ⟨rfl, rfl, rfl, rfl, rfl, trivial⟩ ?_
          refine X.blockNormal ?_
          exact X.again (j3 - 1) ⟨rfl, rfl, rfl, rfl, rfl, trivial⟩ ⟨by rw [← hj3, scanDown_go (p := fun x => lt d2[a]! x) (by omega) (by omega) hT.2], by omega, by omega, hs⟩ (by omega)
        · have hF := and_F h65
          rw [scanDown_stop (p := fun x => lt d2[a]! x) (fun hh => hF ⟨by omega, hh.2⟩)] at hj3
          refine C.exit ?_
          refine X.thenExit ?_
          refine X.loopExit ?_
          refine X.blockExit ?_
          refine X.next ?_
          refine C.seq ?_
          refine C.seq ?_
          refine C.region ?_
          refine R.ev rfl (E.move rfl) ?_
          refine R.ev rfl (E.move rfl) ?_
          refine R.ev rfl (E.gtr rfl rfl) ?_
          refine R.done ?_
          refine X.keep [(0, _), (1, _), (4, _), (11, _), (12, _), (70, _)] ⟨rfl, rfl, rfl, rfl, rfl, rfl, trivial⟩ ?_
          refine X.next ?_
          refine C.cdec rfl (fun h70 => ?_) (fun h70 => ?_)
          · refine C.exit ?_
            refine X.thenExit ?_
            refine X.blockOther rfl ?_
            refine X.loopExit ?_
            refine X.blockExit ?_
            refine X.next ?_
            refine C.seq ?_
            refine C.region ?_
            refine R.ev rfl (E.move rfl) ?_
            refine R.ev rfl (E.assign rfl) ?_
            refine R.done ?_
            refine X.keep [(10, _)] ⟨rfl, trivial⟩ ?_
            refine X.next ?_
            refine C.ret ?_
            refine X.ret1 rfl rfl ?_
            rw [partEq_stop hi3.symm hj3.symm (by omega)] at he
            rw [← he]
            exact ⟨rfl, F2, r2, hs⟩
          · refine C.skip ?_
            refine X.next ?_
            refine C.seq ?_
            refine C.drawn (SatS hs) ([7, 11], [0, 1, 2, 3, 4, 5, 6, 8, 9, 10, 12, 14]) (by kernel_rfl) ?_
            have hs := hs.drew
            have A1 := r2.el (K := K) (Hs := F2 :: Rs) (i := i3) (by omega)
            have A2 := r2.el (K := K) (Hs := F2 :: Rs) (i := j3) (by omega)
            refine D.evP 0 rfl (by kernel_rfl) rfl (fun _ => hs.to) (fun _ => E.move rfl) ?_
            refine D.evP 1 rfl (by kernel_rfl) rfl (fun _ => hs.to) (fun _ => E.move rfl) ?_
            refine D.evP 2 rfl (by kernel_rfl) rfl (fun _ => hs.to) (fun _ => E.move rfl) ?_
            refine D.evP 3 rfl (by kernel_rfl) rfl (fun _ => hs.to) (fun _ => E.move rfl) ?_
            refine D.evP 4 rfl (by kernel_rfl) rfl (fun _ => hs.to) (fun _ => E.move rfl) ?_
            refine D.evP 5 rfl (by kernel_rfl) rfl (fun _ => hs.to) (fun _ => E.move rfl) ?_
            refine D.evP 6 rfl (by kernel_rfl) rfl (fun _ => hs.to) (fun _ => E.indexAddr rfl rfl Tryz.underlying88 Tryz.sz50 rfl (by first | omega | decide)) ?_
            refine D.evP 8 rfl (by kernel_rfl) rfl (fun _ => hs.to) (fun _ => E.move rfl) ?_
            refine D.evP 9 rfl (by kernel_rfl) rfl (fun _ => hs.to) (fun _ => E.move rfl) ?_
            refine D.evP 10 rfl (by kernel_rfl) rfl (fun _ => hs.to) (fun _ => E.indexAddr rfl rfl Tryz.underlying88 Tryz.sz50 rfl (by first | omega | decide)) ?_
            refine D.ev 7 rfl (by kernel_rfl) rfl hs.to (fun _ hS => E.loadRowC rfl Tryz.underlying50 rfl Tryz.sz50 ⟨A2 _ hS, Enc.len _⟩) ?_
            refine D.ev 11 rfl (by kernel_rfl) rfl hs.to (fun _ hS => E.loadRowC rfl Tryz.underlying50 rfl Tryz.sz50 ⟨A1 _ hS, Enc.len _⟩) ?_
            refine D.evP 12 rfl (by kernel_rfl) rfl (fun _ => hs.to) (fun _ => E.indexAddr rfl rfl Tryz.underlying88 Tryz.sz50 rfl (by first | omega | decide)) ?_
            refine D.act 13 rfl (by kernel_rfl) ?_
            refine R.dset (i3) hs (r2) rfl rfl Tryz.sz50 (by omega) ?_
            intro w8a F8a r8a hs
            refine D.backT (by kernel_rfl) ?_
            refine D.evP 14 rfl (by kernel_rfl) rfl (np (by kernel_rfl)) (fun _ => E.indexAddr rfl rfl Tryz.underlying88 Tryz.sz50 rfl (by first | omega | decide)) ?_
            refine D.act 15 rfl (by kernel_rfl) ?_
            refine R.dset (j3) hs r8a rfl rfl Tryz.sz50 (by omega) ?_
            intro w8 F8 r8 hs
            refine D.backT (by kernel_rfl) ?_
            refine D.done rfl (by kernel_rfl) ?_
            refine X.keep [(0, _), (1, _), (4, _), (11, _), (12, _)] ⟨rfl, rfl, rfl, rfl, rfl, trivial⟩ ?_
            refine X.next ?_
            refine C.seq ?_
            refine C.region ?_
            refine R.ev rfl (E.move rfl) ?_
            refine R.ev rfl ((E.add rfl rfl (by omega) (by omega)).isI (c := ((i3 + 1 : Nat) : Int)) (by omega)) ?_
            refine R.ev rfl (E.assign rfl) ?_
            refine R.done ?_
            refine X.keep [(0, _), (1, _), (4, _), (11, _), (12, _)] ⟨rfl, rfl, rfl, rfl, rfl, trivial⟩ ?_
            refine X.next ?_
            refine C.region ?_
            refine R.ev rfl (E.move rfl) ?_
            refine R.ev rfl ((E.sub rfl rfl (by omega) (by omega)).isI (c := ((j3 - 1 : Nat) : Int)) (by omega)) ?_
            refine R.ev rfl (E.assign rfl) ?_
            refine R.done ?_
            refine X.keep [(0, _), (1, _), (4, _), (11, _), (12, _)] ⟨rfl, rfl, rfl, rfl, rfl, trivial⟩ ?_
            refine X.blockNormal ?_
            exact X.again (i3 + 1, j3 - 1, _, F8) ⟨rfl, rfl, rfl, rfl, rfl, trivial⟩ ⟨by rw [← he, partEq_go hi3.symm hj3.symm (by omega)]; rfl, by omega, by omega, by omega, by omega, r8, hs⟩ (by show _ - _ < _ - _; omega)
end
end Go.Proofs.YtifghjeapfijkaaGreatDoor.Hist
