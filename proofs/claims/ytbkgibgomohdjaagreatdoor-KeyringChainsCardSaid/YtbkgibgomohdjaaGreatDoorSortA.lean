/-
 slices.SortFunc over authors.
-/
import Derived.Test.YtbkgibgomohdjaaGreatDoorSortE
import Derived.Test.YtbkgibgomohdjaaGreatDoorTypes
import Derived.Test.YtbkgibgomohdjaaGreatDoorBits
namespace Go.Proofs.YtbkgibgomohdjaaGreatDoor
open Go.Eng Go.RowKit

instance : Inhabited (Vec 16) := ⟨⟨List.replicate 16 0, rfl⟩⟩
namespace AuS
/-- the comparison of a sort -/
def auCmp (K : Kn) (Rs : List Hl) (fid : FuncId) (fst cps : List Value) (lt : (Vec 16) → (Vec 16) → Bool) : Prop := Callable Tryz.prog fid ∧ ∀ (x y : (Vec 16)) (w1 : World) (Hs1 : List Hl), SubP Rs Hs1 → Sat K w1 Hs1 →
 Ret Tryz.prog fid (fst ++ [Value.agg (encV x).toArray, Value.agg (encV y).toArray] ++ cps).toArray w1 fun r w' => ∃ c : Int, r = .int .i64 c ∧ decide (c < 0) = lt x y ∧ Sat K w' Hs1
abbrev auA (b m c0 : Nat) (d : Array (Vec 16)) (F : Hl) : Prop := Arr 54 encV 16 b m c0 d F
section
variable {K : Kn} {Rs : List Hl} {F : Hl} {w : World} {b m c0 : Nat} {d : Array (Vec 16)} {lt : (Vec 16) → (Vec 16) → Bool} {fid : FuncId} {fst cps : List Value}
open Go.Sort
theorem auins_any (hf : auCmp K Rs fid fst cps lt) (a b0 : Nat) (hs : Sat K w (F :: Rs)) (hr : auA b m c0 d F) (ha : a ≤ m) (hb : b0 ≤ m) (hm : m ≤ 1000000000) :
   Ret Tryz.prog 72 #[.slice (some ⟨b, 0, none⟩) m c0, .int .i64 (a : Nat), .int .i64 (b0 : Nat), .func (.func fid) fst.toArray cps.toArray] w fun _ w' => ∃ F', auA b m c0 (insertionSort lt d a b0) F' ∧ Sat K w' (F' :: Rs) := by
 refine Ret.enter (n := 53) (args := [.slice (some ⟨b, 0, none⟩) m c0, .int .i64 (a : Nat), .int .i64 (b0 : Nat), .func (.func fid) fst.toArray cps.toArray]) Tryz.func72 rfl rfl ?_
 refine C.keep [(0, _), (1, _), (2, _), (3, _)] ⟨rfl, rfl, rfl, rfl, trivial⟩ (C.seq (C.region (R.ev rfl (E.move rfl) ?_)))
 refine R.ev rfl ((E.add rfl rfl (by omega) (by omega)).isI (c := ((a + 1 : Nat) : Int)) (by omega)) ?_
 refine R.ev rfl (E.assign rfl) (R.done (X.keep [(0, _), (1, _), (2, _), (3, _), (8, _)] ⟨rfl, rfl, rfl, rfl, rfl, trivial⟩ (X.next (C.block ?_))))
 refine C.loop (T := Nat × Array (Vec 16) × Hl) [(0, _), (1, _), (2, _), (3, _)] (fun (i, _, _) => [(8, .int .i64 (i : Nat))]) (fun (i, d1, F1) w' => insOuter lt a b0 i d1 = insertionSort lt d a b0 ∧ a + 1 ≤ i ∧ i ≤ m + 1 ∧ auA b m c0 d1 F1 ∧ Sat K w' (F1 :: Rs)) (fun (i, _) => b0 - i) ((a + 1, d, F)) ⟨rfl, rfl, rfl, rfl, rfl, trivial⟩ ⟨rfl, by omega, by omega, hr, hs⟩ ?_
 rintro ⟨i, d1, F1⟩ w1 ⟨he, hai, hi2, r1, hs⟩
 refine C.keep [(0, _), (1, _), (2, _), (3, _), (8, _)] ⟨rfl, rfl, rfl, rfl, rfl, trivial⟩ (C.seq (C.seq (C.region (R.ev rfl (E.move rfl) (R.ev rfl (E.move rfl) (R.ev rfl (E.lss rfl rfl) (R.done (X.keep [(0, _), (1, _), (2, _), (3, _), (8, _), (14, _)] ⟨rfl, rfl, rfl, rfl, rfl, rfl, trivial⟩ ?_))))))))
 refine X.next ?_
 refine C.cdec rfl (fun h14 => ?_) (fun h14 => ?_)
 rw [insOuter_go (by omega)] at he
 refine C.skip (X.next (C.seq (C.block (C.seq (C.region (R.ev rfl (E.move rfl) (R.ev rfl (E.assign rfl) (R.done ?_))))))))
 refine X.keep [(0, _), (1, _), (2, _), (3, _), (8, _), (9, _)] ⟨rfl, rfl, rfl, rfl, rfl, rfl, trivial⟩ (X.next (C.block ?_))
 refine C.loop (T := Nat × Array (Vec 16) × Hl) [(0, _), (1, _), (2, _), (3, _), (8, _)] (fun (j, _, _) => [(9, .int .i64 (j : Nat))]) (fun (j, d2, F2) w' => insInner lt a j d2 = insInner lt a i d1 ∧ j ≤ i ∧ auA b m c0 d2 F2 ∧ Sat K w' (F2 :: Rs)) (fun (j, _) => j) ((i, d1, F1)) ⟨rfl, rfl, rfl, rfl, rfl, rfl, trivial⟩ ⟨rfl, by omega, r1, hs⟩ ?_
 rintro ⟨j, d2, F2⟩ w2 ⟨hj, hji, r2, hs⟩
 refine C.keep [(0, _), (1, _), (2, _), (3, _), (8, _), (9, _)] ⟨rfl, rfl, rfl, rfl, rfl, rfl, trivial⟩ (C.seq (C.seq ?_))
 refine C.drawn (SatS hs) ([8, 13], [0, 1, 2, 3, 4, 5, 6, 7, 9, 10, 11, 12, 15, 16]) (by kernel_rfl) ?_
 have hs := hs.drew
 refine D.evP 0 rfl (by kernel_rfl) rfl (fun _ => hs.to) (fun _ => E.move rfl) (D.evP 1 rfl (by kernel_rfl) rfl (fun _ => hs.to) (fun _ => E.move rfl) (D.evP 2 rfl (by kernel_rfl) rfl (fun _ => hs.to) (fun _ => E.gtr rfl rfl) (D.evP 3 rfl (by kernel_rfl) rfl (fun _ => hs.to) (fun _ => E.move rfl) ?_)))
 refine D.split 21 rfl (fun h21 => ?_) (fun h21 => ?_)
 have hja : a < j := by have := of_decide_eq_true h21; omega
 have A1 := r2.el (K := K) (Hs := F2 :: Rs) (i := j) (by omega)
 have A2 := r2.el (K := K) (Hs := F2 :: Rs) (i := j - 1) (by omega)
 refine D.evPG 4 rfl (by kernel_rfl) rfl rfl rfl (fun _ => hs.to) (fun _ => E.move rfl) (D.evPG 5 rfl (by kernel_rfl) rfl rfl rfl (fun _ => hs.to) (fun _ => E.move rfl) (D.evPG 6 rfl (by kernel_rfl) rfl rfl rfl (fun _ => hs.to) (fun _ => E.move rfl) ?_))
 refine D.evPG 7 rfl (by kernel_rfl) rfl rfl rfl (fun _ => hs.to) (fun _ => E.indexAddr rfl rfl Tryz.underlying58 Tryz.sz54 rfl (by first | omega | decide)) ?_
 refine D.evPG 9 rfl (by kernel_rfl) rfl rfl rfl (fun _ => hs.to) (fun _ => E.move rfl) (D.evPG 10 rfl (by kernel_rfl) rfl rfl rfl (fun _ => hs.to) (fun _ => E.move rfl) ?_)
 refine D.evPG 11 rfl (by kernel_rfl) rfl rfl rfl (fun _ => hs.to) (fun _ => (E.sub rfl rfl (by omega) (by omega)).isI (c := ((j - 1 : Nat) : Int)) (by omega)) ?_
 refine D.evPG 12 rfl (by kernel_rfl) rfl rfl rfl (fun _ => hs.to) (fun _ => E.indexAddr rfl rfl Tryz.underlying58 Tryz.sz54 rfl (by first | omega | decide)) ?_
 refine D.evG 8 rfl (by kernel_rfl) rfl rfl rfl hs.to (fun _ hS => E.loadRowC rfl Tryz.underlying54 rfl Tryz.sz54 ⟨A1 _ hS, Enc.len _⟩) (D.evG 13 rfl (by kernel_rfl) rfl rfl rfl hs.to (fun _ hS => E.loadRowC rfl Tryz.underlying54 rfl Tryz.sz54 ⟨A2 _ hS, Enc.len _⟩) (D.act 14 rfl (by kernel_rfl) (R.gyes rfl rfl ?_)))
 refine R.callV hf.1 rfl rfl rfl (hf.2 _ _ _ _ inferInstance hs) ?_
 rintro _ w4 ⟨cc4, rfl, hcc4, hs⟩
 refine D.backT (by kernel_rfl) ?_
 refine D.evPG 15 rfl (by kernel_rfl) rfl rfl rfl (np (by kernel_rfl)) (fun _ => (E.lss rfl rfl).isB (c := lt d2[j]! d2[j - 1]!) hcc4) ?_
 refine D.evP 16 rfl (by kernel_rfl) rfl (np (by kernel_rfl)) (fun _ => E.pickT rfl rfl) (D.done rfl (by kernel_rfl) (X.keep [(0, _), (1, _), (2, _), (3, _), (8, _), (9, _), (34, _)] ⟨rfl, rfl, rfl, rfl, rfl, rfl, rfl, trivial⟩ (X.next ?_)))
 refine C.cbool rfl (fun h34 => ?_) (fun h34 => ?_)
 refine C.skip (X.next (C.seq (C.block ?_)))
 refine C.drawn (SatS hs) ([9, 13], [0, 1, 2, 3, 4, 5, 6, 7, 8, 10, 11, 12, 14, 16]) (by kernel_rfl) ?_
 have hs := hs.drew
 refine D.evP 0 rfl (by kernel_rfl) rfl (fun _ => hs.to) (fun _ => E.move rfl) (D.evP 1 rfl (by kernel_rfl) rfl (fun _ => hs.to) (fun _ => E.move rfl) (D.evP 2 rfl (by kernel_rfl) rfl (fun _ => hs.to) (fun _ => E.move rfl) (D.evP 3 rfl (by kernel_rfl) rfl (fun _ => hs.to) (fun _ => E.move rfl) ?_)))
 refine D.evP 4 rfl (by kernel_rfl) rfl (fun _ => hs.to) (fun _ => (E.sub rfl rfl (by omega) (by omega)).isI (c := ((j - 1 : Nat) : Int)) (by omega)) ?_
 refine D.evP 5 rfl (by kernel_rfl) rfl (fun _ => hs.to) (fun _ => E.move rfl) (D.evP 6 rfl (by kernel_rfl) rfl (fun _ => hs.to) (fun _ => E.move rfl) ?_)
 refine D.evP 7 rfl (by kernel_rfl) rfl (fun _ => hs.to) (fun _ => (E.sub rfl rfl (by omega) (by omega)).isI (c := ((j - 1 : Nat) : Int)) (by omega)) ?_
 refine D.evP 8 rfl (by kernel_rfl) rfl (fun _ => hs.to) (fun _ => E.indexAddr rfl rfl Tryz.underlying58 Tryz.sz54 rfl (by first | omega | decide)) ?_
 refine D.evP 10 rfl (by kernel_rfl) rfl (fun _ => hs.to) (fun _ => E.move rfl) (D.evP 11 rfl (by kernel_rfl) rfl (fun _ => hs.to) (fun _ => E.move rfl) ?_)
 refine D.evP 12 rfl (by kernel_rfl) rfl (fun _ => hs.to) (fun _ => E.indexAddr rfl rfl Tryz.underlying58 Tryz.sz54 rfl (by first | omega | decide)) ?_
 refine D.ev 9 rfl (by kernel_rfl) rfl hs.to (fun _ hS => E.loadRowC rfl Tryz.underlying54 rfl Tryz.sz54 ⟨A2 _ hS, Enc.len _⟩) (D.ev 13 rfl (by kernel_rfl) rfl hs.to (fun _ hS => E.loadRowC rfl Tryz.underlying54 rfl Tryz.sz54 ⟨A1 _ hS, Enc.len _⟩) ?_)
 refine D.evP 14 rfl (by kernel_rfl) rfl (fun _ => hs.to) (fun _ => E.indexAddr rfl rfl Tryz.underlying58 Tryz.sz54 rfl (by first | omega | decide)) ?_
 refine D.act 15 rfl (by kernel_rfl) (R.dset (j) hs (r2) rfl rfl Tryz.sz54 (by omega) ?_)
 intro w6a F6a r6a hs
 refine D.backT (by kernel_rfl) ?_
 refine D.evP 16 rfl (by kernel_rfl) rfl (np (by kernel_rfl)) (fun _ => E.indexAddr rfl rfl Tryz.underlying58 Tryz.sz54 rfl (by first | omega | decide)) ?_
 refine D.act 17 rfl (by kernel_rfl) (R.dset (j - 1) hs r6a rfl rfl Tryz.sz54 (by omega) ?_)
 intro w6 F6 r6 hs
 refine D.backT (by kernel_rfl) (D.done rfl (by kernel_rfl) (X.keep [(0, _), (1, _), (2, _), (3, _), (8, _), (9, _)] ⟨rfl, rfl, rfl, rfl, rfl, rfl, trivial⟩ (X.blockNormal (X.next (C.region (R.ev rfl (E.move rfl) ?_))))))
 refine R.ev rfl ((E.sub rfl rfl (by omega) (by omega)).isI (c := ((j - 1 : Nat) : Int)) (by omega)) ?_
 refine R.ev rfl (E.assign rfl) (R.done (X.keep [(0, _), (1, _), (2, _), (3, _), (8, _), (9, _)] ⟨rfl, rfl, rfl, rfl, rfl, rfl, trivial⟩ ?_))
 exact X.again (j - 1, _, F6) ⟨rfl, rfl, rfl, rfl, rfl, rfl, trivial⟩ ⟨by rw [← hj, insInner_go hja h34]; rfl, by omega, r6, hs⟩ (by show j - 1 < j; omega)
 refine C.exit (X.thenExit (X.loopExit (X.blockExit (X.blockNormal (X.next (C.region (R.ev rfl (E.move rfl) ?_)))))))
 refine R.ev rfl ((E.add rfl rfl (by omega) (by omega)).isI (c := ((i + 1 : Nat) : Int)) (by omega)) ?_
 refine R.ev rfl (E.assign rfl) (R.done (X.keep [(0, _), (1, _), (2, _), (3, _), (8, _)] ⟨rfl, rfl, rfl, rfl, rfl, trivial⟩ ?_))
 have hno : ¬ (a < j ∧ lt d2[j]! d2[j - 1]! = true) := by
   first
     | (intro hh; rw [h34] at hh; exact Bool.noConfusion hh.2)
     | (have := of_decide_eq_false h21; omega)
 exact X.again (i + 1, d2, F2) ⟨rfl, rfl, rfl, rfl, rfl, trivial⟩ ⟨by rw [← he, ← hj, insInner_stop hno], by omega, by omega, r2, hs⟩ (by show _ - _ < _ - _; omega)
 refine D.skipP 4 rfl (by kernel_rfl) rfl rfl rfl (fun _ => hs.to) (D.skipP 5 rfl (by kernel_rfl) rfl rfl rfl (fun _ => hs.to) (D.skipP 6 rfl (by kernel_rfl) rfl rfl rfl (fun _ => hs.to) (D.skipP 7 rfl (by kernel_rfl) rfl rfl rfl (fun _ => hs.to) (D.skipP 9 rfl (by kernel_rfl) rfl rfl rfl (fun _ => hs.to) (D.skipP 10 rfl (by kernel_rfl) rfl rfl rfl (fun _ => hs.to) (D.skipP 11 rfl (by kernel_rfl) rfl rfl rfl (fun _ => hs.to) (D.skipP 12 rfl (by kernel_rfl) rfl rfl rfl (fun _ => hs.to) (D.skip 8 rfl (by kernel_rfl) rfl rfl rfl hs.to ?_))))))))
 refine D.skip 13 rfl (by kernel_rfl) rfl rfl rfl hs.to (D.act 14 rfl (by kernel_rfl) (R.gskip rfl rfl rfl (D.backT (by kernel_rfl) (D.skipP 15 rfl (by kernel_rfl) rfl rfl rfl (np (by kernel_rfl)) (D.evP 16 rfl (by kernel_rfl) rfl (np (by kernel_rfl)) (fun _ => E.pickF rfl rfl) (D.done rfl (by kernel_rfl) (X.keep [(0, _), (1, _), (2, _), (3, _), (8, _), (9, _), (34, _)] ⟨rfl, rfl, rfl, rfl, rfl, rfl, rfl, trivial⟩ (X.next ?_))))))))
 refine C.cfalse rfl (C.exit (X.thenExit (X.loopExit (X.blockExit (X.blockNormal (X.next (C.region (R.ev rfl (E.move rfl) ?_))))))))
 refine R.ev rfl ((E.add rfl rfl (by omega) (by omega)).isI (c := ((i + 1 : Nat) : Int)) (by omega)) ?_
 refine R.ev rfl (E.assign rfl) (R.done (X.keep [(0, _), (1, _), (2, _), (3, _), (8, _)] ⟨rfl, rfl, rfl, rfl, rfl, trivial⟩ ?_))
 have hno : ¬ (a < j ∧ lt d2[j]! d2[j - 1]! = true) := by
   first
     | (intro hh; rw [h34] at hh; exact Bool.noConfusion hh.2)
     | (have := of_decide_eq_false h21; omega)
 exact X.again (i + 1, d2, F2) ⟨rfl, rfl, rfl, rfl, rfl, trivial⟩ ⟨by rw [← he, ← hj, insInner_stop hno], by omega, by omega, r2, hs⟩ (by show _ - _ < _ - _; omega)
 refine C.exit (X.thenExit (X.loopExit (X.blockExit (X.bodyNormal (X.ret0 rfl ?_)))))
 exact ⟨F1, by rw [← he, insOuter_stop (by omega)]; exact r1, hs⟩
theorem ausift_any (hf : auCmp K Rs fid fst cps lt) (lo hi first : Nat) (hs : Sat K w (F :: Rs)) (hr : auA b m c0 d F) (hlo : lo ≤ m) (hb : first + hi ≤ m) (hm : m ≤ 1000000000) :
   Ret Tryz.prog 86 #[.slice (some ⟨b, 0, none⟩) m c0, .int .i64 (lo : Nat), .int .i64 (hi : Nat), .int .i64 (first : Nat), .func (.func fid) fst.toArray cps.toArray] w fun _ w' => ∃ F', auA b m c0 (siftDown lt hi first lo d) F' ∧ Sat K w' (F' :: Rs) := by
 refine Ret.enter (n := 82) (args := [.slice (some ⟨b, 0, none⟩) m c0, .int .i64 (lo : Nat), .int .i64 (hi : Nat), .int .i64 (first : Nat), .func (.func fid) fst.toArray cps.toArray]) Tryz.func86 rfl rfl ?_
 refine C.keep [(0, _), (1, _), (2, _), (3, _), (4, _)] ⟨rfl, rfl, rfl, rfl, rfl, trivial⟩ (C.seq (C.region (R.ev rfl (E.move rfl) (R.ev rfl (E.assign rfl) (R.done (X.keep [(0, _), (2, _), (3, _), (4, _), (10, _)] ⟨rfl, rfl, rfl, rfl, rfl, trivial⟩ (X.next (C.block ?_))))))))
 refine C.loop (T := Nat × Array (Vec 16) × Hl) [(0, _), (2, _), (3, _), (4, _)] (fun (r, _, _) => [(10, .int .i64 (r : Nat))]) (fun (r, d1, F1) w' => siftDown lt hi first r d1 = siftDown lt hi first lo d ∧ r ≤ m ∧ auA b m c0 d1 F1 ∧ Sat K w' (F1 :: Rs)) (fun (r, _) => hi - r) ((lo, d, F)) ⟨rfl, rfl, rfl, rfl, rfl, trivial⟩ ⟨rfl, hlo, hr, hs⟩ ?_
 rintro ⟨r, d1, F1⟩ w1 ⟨he, hrm, r1, hs⟩
 refine C.keep [(0, _), (2, _), (3, _), (4, _), (10, _)] ⟨rfl, rfl, rfl, rfl, rfl, trivial⟩ (C.block (C.seq (C.region (R.ev rfl (E.move rfl) ?_))))
 refine R.ev rfl ((E.mul rfl rfl (by omega) (by omega)).isI (c := ((2 * r : Nat) : Int)) (by omega)) ?_
 refine R.ev rfl ((E.add rfl rfl (by omega) (by omega)).isI (c := ((2 * r + 1 : Nat) : Int)) (by omega)) ?_
 refine R.ev rfl (E.assign rfl) (R.done (X.keep [(0, _), (2, _), (3, _), (4, _), (10, _), (11, _)] ⟨rfl, rfl, rfl, rfl, rfl, rfl, trivial⟩ (X.next (C.seq (C.seq (C.region (R.ev rfl (E.move rfl) (R.ev rfl (E.move rfl) ?_))))))))
 refine R.ev rfl (E.geq rfl rfl) (R.done (X.keep [(0, _), (2, _), (3, _), (4, _), (10, _), (11, _), (18, _)] ⟨rfl, rfl, rfl, rfl, rfl, rfl, rfl, trivial⟩ (X.next ?_)))
 refine C.cdec rfl (fun h18 => ?_) (fun h18 => ?_)
 refine C.exit (X.thenExit (X.blockOther rfl (X.loopExit (X.blockExit (X.bodyNormal (X.ret0 rfl ?_))))))
 first
   | exact ⟨F1, by rw [← he, hst (by simpa using h58)]; exact r1, hs⟩
   | exact ⟨F1, by rw [← he, sift_end (by omega)]; exact r1, hs⟩
 have h18' : ¬ 2 * r + 1 ≥ hi := by omega
 refine C.skip (X.next (C.seq (C.seq ?_)))
 refine C.cut [(0, _), (2, _), (3, _), (4, _), (10, _), (11, _)] (fun (_ : Unit) => [(40, .bool (decide (((2 * r + 1 + 1 : Nat) : Int) < ((hi : Nat) : Int)) && lt d1[first + (2 * r + 1)]! d1[first + (2 * r + 1) + 1]!))]) (fun _ w' => Sat K w' (F1 :: Rs)) ⟨rfl, rfl, rfl, rfl, rfl, rfl, trivial⟩ ?_ ?_
 refine C.drawn (SatS hs) ([11, 18], [0, 1, 2, 3, 4, 5, 6, 7, 8, 9, 10, 12, 13, 14, 15, 16, 17, 20, 21]) (by kernel_rfl) ?_
 have hs := hs.drew
 refine D.evP 0 rfl (by kernel_rfl) rfl (fun _ => hs.to) (fun _ => E.move rfl) ?_
 refine D.evP 1 rfl (by kernel_rfl) rfl (fun _ => hs.to) (fun _ => (E.add rfl rfl (by omega) (by omega)).isI (c := ((2 * r + 1 + 1 : Nat) : Int)) (by omega)) ?_
 refine D.evP 2 rfl (by kernel_rfl) rfl (fun _ => hs.to) (fun _ => E.move rfl) (D.evP 3 rfl (by kernel_rfl) rfl (fun _ => hs.to) (fun _ => E.lss rfl rfl) (D.evP 4 rfl (by kernel_rfl) rfl (fun _ => hs.to) (fun _ => E.move rfl) ?_))
 refine D.split 23 rfl (fun h23 => ?_) (fun h23 => ?_)
 have h23' := of_decide_eq_true h23
 have A1 := r1.el (K := K) (Hs := F1 :: Rs) (i := first + (2 * r + 1)) (by omega)
 have A2 := r1.el (K := K) (Hs := F1 :: Rs) (i := first + (2 * r + 1) + 1) (by omega)
 refine D.evPG 5 rfl (by kernel_rfl) rfl rfl rfl (fun _ => hs.to) (fun _ => E.move rfl) (D.evPG 6 rfl (by kernel_rfl) rfl rfl rfl (fun _ => hs.to) (fun _ => E.move rfl) (D.evPG 7 rfl (by kernel_rfl) rfl rfl rfl (fun _ => hs.to) (fun _ => E.move rfl) (D.evPG 8 rfl (by kernel_rfl) rfl rfl rfl (fun _ => hs.to) (fun _ => E.move rfl) ?_)))
 refine D.evPG 9 rfl (by kernel_rfl) rfl rfl rfl (fun _ => hs.to) (fun _ => (E.add rfl rfl (by omega) (by omega)).isI (c := ((first + (2 * r + 1) : Nat) : Int)) (by omega)) ?_
 refine D.evPG 10 rfl (by kernel_rfl) rfl rfl rfl (fun _ => hs.to) (fun _ => E.indexAddr rfl rfl Tryz.underlying58 Tryz.sz54 rfl (by first | omega | decide)) ?_
 refine D.evPG 12 rfl (by kernel_rfl) rfl rfl rfl (fun _ => hs.to) (fun _ => E.move rfl) (D.evPG 13 rfl (by kernel_rfl) rfl rfl rfl (fun _ => hs.to) (fun _ => E.move rfl) (D.evPG 14 rfl (by kernel_rfl) rfl rfl rfl (fun _ => hs.to) (fun _ => E.move rfl) ?_))
 refine D.evPG 15 rfl (by kernel_rfl) rfl rfl rfl (fun _ => hs.to) (fun _ => (E.add rfl rfl (by omega) (by omega)).isI (c := ((first + (2 * r + 1) : Nat) : Int)) (by omega)) ?_
 refine D.evPG 16 rfl (by kernel_rfl) rfl rfl rfl (fun _ => hs.to) (fun _ => (E.add rfl rfl (by omega) (by omega)).isI (c := ((first + (2 * r + 1) + 1 : Nat) : Int)) (by omega)) ?_
 refine D.evPG 17 rfl (by kernel_rfl) rfl rfl rfl (fun _ => hs.to) (fun _ => E.indexAddr rfl rfl Tryz.underlying58 Tryz.sz54 rfl (by first | omega | decide)) ?_
 refine D.evG 11 rfl (by kernel_rfl) rfl rfl rfl hs.to (fun _ hS => E.loadRowC rfl Tryz.underlying54 rfl Tryz.sz54 ⟨A1 _ hS, Enc.len _⟩) (D.evG 18 rfl (by kernel_rfl) rfl rfl rfl hs.to (fun _ hS => E.loadRowC rfl Tryz.underlying54 rfl Tryz.sz54 ⟨A2 _ hS, Enc.len _⟩) (D.act 19 rfl (by kernel_rfl) (R.gyes rfl rfl ?_)))
 refine R.callV hf.1 rfl rfl rfl (hf.2 _ _ _ _ inferInstance hs) ?_
 rintro _ w3 ⟨cc3, rfl, hcc3, hs⟩
 refine D.backT (by kernel_rfl) ?_
 refine D.evPG 20 rfl (by kernel_rfl) rfl rfl rfl (np (by kernel_rfl)) (fun _ => (E.lss rfl rfl).isB (c := lt d1[first + (2 * r + 1)]! d1[first + (2 * r + 1) + 1]!) hcc3) ?_
 refine D.evP 21 rfl (by kernel_rfl) rfl (np (by kernel_rfl)) (fun _ => E.pickT rfl rfl) (D.done rfl (by kernel_rfl) (X.keep [(0, _), (2, _), (3, _), (4, _), (10, _), (11, _), (40, _)] ⟨rfl, rfl, rfl, rfl, rfl, rfl, rfl, trivial⟩ ?_))
 refine X.cut (()) ⟨lkV rfl ?_, rfl, rfl, rfl, rfl, rfl, rfl, trivial⟩ ?_
 · first | exact gT h23 | exact gF h23
 exact hs
 refine D.skipP 5 rfl (by kernel_rfl) rfl rfl rfl (fun _ => hs.to) (D.skipP 6 rfl (by kernel_rfl) rfl rfl rfl (fun _ => hs.to) (D.skipP 7 rfl (by kernel_rfl) rfl rfl rfl (fun _ => hs.to) (D.skipP 8 rfl (by kernel_rfl) rfl rfl rfl (fun _ => hs.to) (D.skipP 9 rfl (by kernel_rfl) rfl rfl rfl (fun _ => hs.to) (D.skipP 10 rfl (by kernel_rfl) rfl rfl rfl (fun _ => hs.to) (D.skipP 12 rfl (by kernel_rfl) rfl rfl rfl (fun _ => hs.to) (D.skipP 13 rfl (by kernel_rfl) rfl rfl rfl (fun _ => hs.to) (D.skipP 14 rfl (by kernel_rfl) rfl rfl rfl (fun _ => hs.to) ?_))))))))
 refine D.skipP 15 rfl (by kernel_rfl) rfl rfl rfl (fun _ => hs.to) (D.skipP 16 rfl (by kernel_rfl) rfl rfl rfl (fun _ => hs.to) (D.skipP 17 rfl (by kernel_rfl) rfl rfl rfl (fun _ => hs.to) (D.skip 11 rfl (by kernel_rfl) rfl rfl rfl hs.to (D.skip 18 rfl (by kernel_rfl) rfl rfl rfl hs.to (D.act 19 rfl (by kernel_rfl) (R.gskip rfl rfl rfl (D.backT (by kernel_rfl) (D.skipP 20 rfl (by kernel_rfl) rfl rfl rfl (np (by kernel_rfl)) ?_))))))))
 refine D.evP 21 rfl (by kernel_rfl) rfl (np (by kernel_rfl)) (fun _ => E.pickF rfl rfl) (D.done rfl (by kernel_rfl) (X.keep [(0, _), (2, _), (3, _), (4, _), (10, _), (11, _), (40, _)] ⟨rfl, rfl, rfl, rfl, rfl, rfl, rfl, trivial⟩ ?_))
 refine X.cut (()) ⟨lkV rfl ?_, rfl, rfl, rfl, rfl, rfl, rfl, trivial⟩ ?_
 · first | exact gT h23 | exact gF h23
 exact hs
 rintro _ w3 hs
 refine X.keep [(0, _), (2, _), (3, _), (4, _), (10, _), (11, _), (40, _)] ⟨rfl, rfl, rfl, rfl, rfl, rfl, rfl, trivial⟩ (X.next ?_)
 refine C.cut [(0, _), (2, _), (3, _), (4, _), (10, _)] (fun (_ : Unit) => [(11, .int .i64 ((child lt hi first r d1 : Nat) : Int))]) (fun _ w' => Sat K w' (F1 :: Rs)) ⟨rfl, rfl, rfl, rfl, rfl, trivial⟩ ?_ ?_
 refine C.cbool rfl (fun h40 => ?_) (fun h40 => ?_)
 refine C.region (R.ev rfl (E.move rfl) ?_)
 refine R.ev rfl ((E.add rfl rfl (by omega) (by omega)).isI (c := ((2 * r + 1 + 1 : Nat) : Int)) (by omega)) ?_
 refine R.ev rfl (E.assign rfl) (R.done (X.keep [(0, _), (2, _), (3, _), (4, _), (10, _), (11, _)] ⟨rfl, rfl, rfl, rfl, rfl, rfl, trivial⟩ ?_))
 refine X.cut (()) ⟨lkV rfl ?_, rfl, rfl, rfl, rfl, rfl, trivial⟩ ?_
 · first
     | (have := and_T h40; rw [child, if_pos (by simp only [Bool.and_eq_true, decide_eq_true_eq]; exact ⟨by omega, this.2⟩)])
     | (have := and_F h40; rw [child, if_neg (by simp only [Bool.and_eq_true, decide_eq_true_eq]; exact fun hh => this ⟨by omega, hh.2⟩)])
 exact hs
 refine C.skip ?_
 refine X.cut (()) ⟨lkV rfl ?_, rfl, rfl, rfl, rfl, rfl, trivial⟩ ?_
 · first
     | (have := and_T h40; rw [child, if_pos (by simp only [Bool.and_eq_true, decide_eq_true_eq]; exact ⟨by omega, this.2⟩)])
     | (have := and_F h40; rw [child, if_neg (by simp only [Bool.and_eq_true, decide_eq_true_eq]; exact fun hh => this ⟨by omega, hh.2⟩)])
 exact hs
 rintro _ w4 hs
 refine X.keep [(0, _), (2, _), (3, _), (4, _), (10, _), (11, _)] ⟨rfl, rfl, rfl, rfl, rfl, rfl, trivial⟩ (X.next (C.seq (C.seq ?_)))
 refine C.drawn (SatS hs) ([6, 12], [0, 1, 2, 3, 4, 5, 7, 8, 9, 10, 11, 14, 15]) (by kernel_rfl) ?_
 have hs := hs.drew
 have hcl := child_lt (lt := lt) (d := d1) (first := first) h18'
 have hcg : r < child lt hi first r d1 := by unfold child; split <;> omega
 have hgo := sift_go (lt := lt) (d := d1) (first := first) h18'
 have hst := sift_stop (lt := lt) (d := d1) (first := first) h18'
 generalize child lt hi first r d1 = ch at hcl hcg hgo hst
 have A3 := r1.el (K := K) (Hs := F1 :: Rs) (i := first + r) (by omega)
 have A4 := r1.el (K := K) (Hs := F1 :: Rs) (i := first + ch) (by omega)
 refine D.evP 0 rfl (by kernel_rfl) rfl (fun _ => hs.to) (fun _ => E.move rfl) (D.evP 1 rfl (by kernel_rfl) rfl (fun _ => hs.to) (fun _ => E.move rfl) (D.evP 2 rfl (by kernel_rfl) rfl (fun _ => hs.to) (fun _ => E.move rfl) (D.evP 3 rfl (by kernel_rfl) rfl (fun _ => hs.to) (fun _ => E.move rfl) ?_)))
 refine D.evP 4 rfl (by kernel_rfl) rfl (fun _ => hs.to) (fun _ => (E.add rfl rfl (by omega) (by omega)).isI (c := ((first + r : Nat) : Int)) (by omega)) ?_
 refine D.evP 5 rfl (by kernel_rfl) rfl (fun _ => hs.to) (fun _ => E.indexAddr rfl rfl Tryz.underlying58 Tryz.sz54 rfl (by first | omega | decide)) ?_
 refine D.evP 7 rfl (by kernel_rfl) rfl (fun _ => hs.to) (fun _ => E.move rfl) (D.evP 8 rfl (by kernel_rfl) rfl (fun _ => hs.to) (fun _ => E.move rfl) (D.evP 9 rfl (by kernel_rfl) rfl (fun _ => hs.to) (fun _ => E.move rfl) ?_))
 refine D.evP 10 rfl (by kernel_rfl) rfl (fun _ => hs.to) (fun _ => (E.add rfl rfl (by omega) (by omega)).isI (c := ((first + ch : Nat) : Int)) (by omega)) ?_
 refine D.evP 11 rfl (by kernel_rfl) rfl (fun _ => hs.to) (fun _ => E.indexAddr rfl rfl Tryz.underlying58 Tryz.sz54 rfl (by first | omega | decide)) ?_
 refine D.ev 6 rfl (by kernel_rfl) rfl hs.to (fun _ hS => E.loadRowC rfl Tryz.underlying54 rfl Tryz.sz54 ⟨A3 _ hS, Enc.len _⟩) (D.ev 12 rfl (by kernel_rfl) rfl hs.to (fun _ hS => E.loadRowC rfl Tryz.underlying54 rfl Tryz.sz54 ⟨A4 _ hS, Enc.len _⟩) (D.act 13 rfl (by kernel_rfl) ?_))
 refine R.callV hf.1 rfl rfl rfl (hf.2 _ _ _ _ inferInstance hs) ?_
 rintro _ w5 ⟨cc5, rfl, hcc5, hs⟩
 refine D.backT (by kernel_rfl) ?_
 refine D.evP 14 rfl (by kernel_rfl) rfl (np (by kernel_rfl)) (fun _ => (E.lss rfl rfl).isB (c := lt d1[first + r]! d1[first + ch]!) hcc5) ?_
 refine D.evP 15 rfl (by kernel_rfl) rfl (np (by kernel_rfl)) (fun _ => (E.not rfl).isB (c := !(lt d1[first + r]! d1[first + ch]!)) rfl) ?_
 refine D.done rfl (by kernel_rfl) (X.keep [(0, _), (2, _), (3, _), (4, _), (10, _), (11, _), (58, _)] ⟨rfl, rfl, rfl, rfl, rfl, rfl, rfl, trivial⟩ (X.next ?_))
 refine C.cbool rfl (fun h58 => ?_) (fun h58 => ?_)
 refine C.ret (X.thenRet (X.blockRet (X.loopRet (X.blockRet (X.ret0 rfl ?_)))))
 first
   | exact ⟨F1, by rw [← he, hst (by simpa using h58)]; exact r1, hs⟩
   | exact ⟨F1, by rw [← he, sift_end (by omega)]; exact r1, hs⟩
 refine C.skip (X.next (C.seq ?_))
 refine C.drawn (SatS hs) ([13, 19], [0, 1, 2, 3, 4, 5, 6, 7, 8, 9, 10, 11, 12, 14, 15, 16, 17, 18, 20, 22]) (by kernel_rfl) ?_
 have hs := hs.drew
 have A1 := A3
 have A2 := A4
 refine D.evP 0 rfl (by kernel_rfl) rfl (fun _ => hs.to) (fun _ => E.move rfl) (D.evP 1 rfl (by kernel_rfl) rfl (fun _ => hs.to) (fun _ => E.move rfl) (D.evP 2 rfl (by kernel_rfl) rfl (fun _ => hs.to) (fun _ => E.move rfl) ?_))
 refine D.evP 3 rfl (by kernel_rfl) rfl (fun _ => hs.to) (fun _ => (E.add rfl rfl (by omega) (by omega)).isI (c := ((first + r : Nat) : Int)) (by omega)) ?_
 refine D.evP 4 rfl (by kernel_rfl) rfl (fun _ => hs.to) (fun _ => E.move rfl) (D.evP 5 rfl (by kernel_rfl) rfl (fun _ => hs.to) (fun _ => E.move rfl) (D.evP 6 rfl (by kernel_rfl) rfl (fun _ => hs.to) (fun _ => E.move rfl) ?_))
 refine D.evP 7 rfl (by kernel_rfl) rfl (fun _ => hs.to) (fun _ => (E.add rfl rfl (by omega) (by omega)).isI (c := ((first + ch : Nat) : Int)) (by omega)) ?_
 refine D.evP 8 rfl (by kernel_rfl) rfl (fun _ => hs.to) (fun _ => E.move rfl) (D.evP 9 rfl (by kernel_rfl) rfl (fun _ => hs.to) (fun _ => E.move rfl) (D.evP 10 rfl (by kernel_rfl) rfl (fun _ => hs.to) (fun _ => E.move rfl) ?_))
 refine D.evP 11 rfl (by kernel_rfl) rfl (fun _ => hs.to) (fun _ => (E.add rfl rfl (by omega) (by omega)).isI (c := ((first + ch : Nat) : Int)) (by omega)) ?_
 refine D.evP 12 rfl (by kernel_rfl) rfl (fun _ => hs.to) (fun _ => E.indexAddr rfl rfl Tryz.underlying58 Tryz.sz54 rfl (by first | omega | decide)) ?_
 refine D.evP 14 rfl (by kernel_rfl) rfl (fun _ => hs.to) (fun _ => E.move rfl) (D.evP 15 rfl (by kernel_rfl) rfl (fun _ => hs.to) (fun _ => E.move rfl) (D.evP 16 rfl (by kernel_rfl) rfl (fun _ => hs.to) (fun _ => E.move rfl) ?_))
 refine D.evP 17 rfl (by kernel_rfl) rfl (fun _ => hs.to) (fun _ => (E.add rfl rfl (by omega) (by omega)).isI (c := ((first + r : Nat) : Int)) (by omega)) ?_
 refine D.evP 18 rfl (by kernel_rfl) rfl (fun _ => hs.to) (fun _ => E.indexAddr rfl rfl Tryz.underlying58 Tryz.sz54 rfl (by first | omega | decide)) ?_
 refine D.ev 13 rfl (by kernel_rfl) rfl hs.to (fun _ hS => E.loadRowC rfl Tryz.underlying54 rfl Tryz.sz54 ⟨A2 _ hS, Enc.len _⟩) (D.ev 19 rfl (by kernel_rfl) rfl hs.to (fun _ hS => E.loadRowC rfl Tryz.underlying54 rfl Tryz.sz54 ⟨A1 _ hS, Enc.len _⟩) ?_)
 refine D.evP 20 rfl (by kernel_rfl) rfl (fun _ => hs.to) (fun _ => E.indexAddr rfl rfl Tryz.underlying58 Tryz.sz54 rfl (by first | omega | decide)) ?_
 refine D.act 21 rfl (by kernel_rfl) ?_
 refine R.dset (first + r) hs (r1) rfl rfl Tryz.sz54 (by omega) ?_
 intro w6a F6a r6a hs
 refine D.backT (by kernel_rfl) ?_
 refine D.evP 22 rfl (by kernel_rfl) rfl (np (by kernel_rfl)) (fun _ => E.indexAddr rfl rfl Tryz.underlying58 Tryz.sz54 rfl (by first | omega | decide)) ?_
 refine D.act 23 rfl (by kernel_rfl) ?_
 refine R.dset (first + ch) hs r6a rfl rfl Tryz.sz54 (by omega) ?_
 intro w6 F6 r6 hs
 refine D.backT (by kernel_rfl) (D.done rfl (by kernel_rfl) (X.keep [(0, _), (2, _), (3, _), (4, _), (11, _)] ⟨rfl, rfl, rfl, rfl, rfl, trivial⟩ (X.next (C.region (R.ev rfl (E.move rfl) (R.ev rfl (E.assign rfl) (R.done (X.keep [(0, _), (2, _), (3, _), (4, _), (10, _)] ⟨rfl, rfl, rfl, rfl, rfl, trivial⟩ ?_))))))))
 refine X.blockNormal ?_
 exact X.again (ch, _, F6) ⟨rfl, rfl, rfl, rfl, rfl, trivial⟩ ⟨(hgo (by simpa using h58)).symm.trans he, by omega, r6, hs⟩ (by show _ - _ < _ - _; omega)
theorem auheap_any (hf : auCmp K Rs fid fst cps lt) (a b0 : Nat) (hs : Sat K w (F :: Rs)) (hr : auA b m c0 d F) (hab : a < b0) (hb : b0 ≤ m) (hm : m ≤ 1000000000) :
   Ret Tryz.prog 73 #[.slice (some ⟨b, 0, none⟩) m c0, .int .i64 (a : Nat), .int .i64 (b0 : Nat), .func (.func fid) fst.toArray cps.toArray] w fun _ w' => ∃ F', auA b m c0 (heapSort lt d a b0) F' ∧ Sat K w' (F' :: Rs) := by
 refine Ret.enter (n := 60) (args := [.slice (some ⟨b, 0, none⟩) m c0, .int .i64 (a : Nat), .int .i64 (b0 : Nat), .func (.func fid) fst.toArray cps.toArray]) Tryz.func73 rfl rfl ?_
 refine C.keep [(0, _), (1, _), (2, _), (3, _)] ⟨rfl, rfl, rfl, rfl, trivial⟩ (C.seq (C.region (R.ev rfl (E.move rfl) (R.ev rfl (E.assign rfl) (R.done (X.keep [(0, _), (1, _), (2, _), (3, _), (8, _)] ⟨rfl, rfl, rfl, rfl, rfl, trivial⟩ (X.next (C.seq ?_))))))))
 refine C.region (R.ev rfl (E.assign rfl) (R.done (X.keep [(0, _), (1, _), (2, _), (3, _), (8, _), (9, _)] ⟨rfl, rfl, rfl, rfl, rfl, rfl, trivial⟩ (X.next (C.seq (C.region (R.ev rfl (E.move rfl) (R.ev rfl (E.move rfl) ?_))))))))
 refine R.ev rfl ((E.sub rfl rfl (by omega) (by omega)).isI (c := ((b0 - a : Nat) : Int)) (by omega)) ?_
 refine R.ev rfl (E.assign rfl) (R.done (X.keep [(0, _), (3, _), (8, _), (9, _), (10, _)] ⟨rfl, rfl, rfl, rfl, rfl, trivial⟩ (X.next (C.seq (C.seq (C.region (R.ev rfl (E.move rfl) ?_)))))))
 refine R.ev rfl ((E.sub rfl rfl (by omega) (by omega)).isI (c := ((b0 - a - 1 : Nat) : Int)) (by omega)) ?_
 refine R.ev rfl ((E.quo rfl rfl (by omega) (by omega) (by omega)).isI (c := (((b0 - a - 1) / 2 + 1 : Nat) : Int) - 1) (by omega)) ?_
 refine R.ev rfl (E.assign rfl) (R.done (X.keep [(0, _), (3, _), (8, _), (9, _), (10, _), (11, _)] ⟨rfl, rfl, rfl, rfl, rfl, rfl, trivial⟩ (X.next (C.block ?_))))
 refine C.loop (T := Nat × Array (Vec 16) × Hl) [(0, _), (3, _), (8, _), (9, _), (10, _)] (fun (k, _, _) => [(11, .int .i64 ((k : Int) - 1))]) (fun (k, d1, F1) w' => heapBuild lt (b0 - a) a k d1 = heapBuild lt (b0 - a) a ((b0 - a - 1) / 2 + 1) d ∧ k ≤ m ∧ auA b m c0 d1 F1 ∧ Sat K w' (F1 :: Rs)) (fun (k, _) => k) (((b0 - a - 1) / 2 + 1, d, F)) ⟨rfl, rfl, rfl, rfl, rfl, rfl, trivial⟩ ⟨rfl, by omega, hr, hs⟩ ?_
 rintro ⟨k, d1, F1⟩ w1 ⟨he, hkm, r1, hs⟩
 refine C.keep [(0, _), (3, _), (8, _), (9, _), (10, _), (11, _)] ⟨rfl, rfl, rfl, rfl, rfl, rfl, trivial⟩ (C.seq (C.seq (C.region (R.ev rfl (E.move rfl) (R.ev rfl (E.geq rfl rfl) (R.done (X.keep [(0, _), (3, _), (8, _), (9, _), (10, _), (11, _), (21, _)] ⟨rfl, rfl, rfl, rfl, rfl, rfl, rfl, trivial⟩ (X.next ?_))))))))
 refine C.cdec rfl (fun h21 => ?_) (fun h21 => ?_)
 obtain ⟨k, rfl⟩ : ∃ k', k = k' + 1 := ⟨k - 1, by omega⟩
 rw [show ((k + 1 : Nat) : Int) - 1 = ((k : Nat) : Int) by omega]
 refine C.skip (X.next (C.seq (C.block (C.region (R.ev rfl (E.move rfl) (R.ev rfl (E.move rfl) (R.ev rfl (E.move rfl) (R.ev rfl (E.move rfl) ?_))))))))
 refine R.ev rfl (E.move rfl) ?_
 refine R.call ⟨_, _, Tryz.func86, rfl, by kernel_rfl⟩ rfl rfl (ausift_any hf k (b0 - a) a hs r1 (by omega) (by omega) hm) ?_
 rintro _ w6 ⟨F6, r6, hs⟩
 refine R.done (X.keep [(0, _), (3, _), (8, _), (9, _), (10, _), (11, _)] ⟨rfl, rfl, rfl, rfl, rfl, rfl, trivial⟩ (X.blockNormal (X.next (C.region (R.ev rfl (E.move rfl) (R.ev rfl (E.sub rfl rfl (by omega) (by omega)) (R.ev rfl (E.assign rfl) (R.done ?_))))))))
 refine X.keep [(0, _), (3, _), (8, _), (9, _), (10, _), (11, _)] ⟨rfl, rfl, rfl, rfl, rfl, rfl, trivial⟩ ?_
 exact X.again (k, _, F6) ⟨rfl, rfl, rfl, rfl, rfl, rfl, trivial⟩ ⟨he, by omega, r6, hs⟩ (by show k < k + 1; omega)
 refine C.exit (X.thenExit (X.loopExit (X.blockExit (X.next (C.seq (C.region ?_))))))
 have hk0 : k = 0 := by omega
 subst hk0
 have he : d1 = heapBuild lt (b0 - a) a ((b0 - a - 1) / 2 + 1) d := he
 refine R.ev rfl (E.move rfl) (R.ev rfl (E.sub rfl rfl (by omega) (by omega)) (R.ev rfl (E.assign rfl) (R.done (X.keep [(0, _), (3, _), (8, _), (9, _), (12, _)] ⟨rfl, rfl, rfl, rfl, rfl, trivial⟩ (X.next (C.block ?_))))))
 refine C.loop (T := Nat × Array (Vec 16) × Hl) [(0, _), (3, _), (8, _), (9, _)] (fun (k, _, _) => [(12, .int .i64 ((k : Int) - 1))]) (fun (k, d2, F2) w' => heapPop lt a k d2 = heapSort lt d a b0 ∧ k ≤ b0 - a ∧ auA b m c0 d2 F2 ∧ Sat K w' (F2 :: Rs)) (fun (k, _) => k) ((b0 - a, d1, F1)) ⟨rfl, rfl, rfl, rfl, rfl, trivial⟩ ⟨by rw [he]; rfl, by omega, r1, hs⟩ ?_
 rintro ⟨k, d2, F2⟩ w2 ⟨he2, hkm2, r2, hs⟩
 refine C.keep [(0, _), (3, _), (8, _), (9, _), (12, _)] ⟨rfl, rfl, rfl, rfl, rfl, trivial⟩ (C.seq (C.seq (C.region (R.ev rfl (E.move rfl) (R.ev rfl (E.geq rfl rfl) (R.done (X.keep [(0, _), (3, _), (8, _), (9, _), (12, _), (33, _)] ⟨rfl, rfl, rfl, rfl, rfl, rfl, trivial⟩ (X.next ?_))))))))
 refine C.cdec rfl (fun h33 => ?_) (fun h33 => ?_)
 obtain ⟨k, rfl⟩ : ∃ k', k = k' + 1 := ⟨k - 1, by omega⟩
 rw [show ((k + 1 : Nat) : Int) - 1 = ((k : Nat) : Int) by omega]
 have A1 := r2.el (K := K) (Hs := F2 :: Rs) (i := a) (by omega)
 have A2 := r2.el (K := K) (Hs := F2 :: Rs) (i := a + k) (by omega)
 refine C.skip (X.next (C.seq (C.block (C.seq ?_))))
 refine C.drawn (SatS hs) ([11, 15], [0, 1, 2, 3, 4, 5, 6, 7, 8, 9, 10, 12, 13, 14, 16, 18]) (by kernel_rfl) ?_
 have hs := hs.drew
 refine D.evP 0 rfl (by kernel_rfl) rfl (fun _ => hs.to) (fun _ => E.move rfl) (D.evP 1 rfl (by kernel_rfl) rfl (fun _ => hs.to) (fun _ => E.move rfl) (D.evP 2 rfl (by kernel_rfl) rfl (fun _ => hs.to) (fun _ => E.move rfl) (D.evP 3 rfl (by kernel_rfl) rfl (fun _ => hs.to) (fun _ => E.move rfl) (D.evP 4 rfl (by kernel_rfl) rfl (fun _ => hs.to) (fun _ => E.move rfl) ?_))))
 refine D.evP 5 rfl (by kernel_rfl) rfl (fun _ => hs.to) (fun _ => (E.add rfl rfl (by omega) (by omega)).isI (c := ((a + k : Nat) : Int)) (by omega)) ?_
 refine D.evP 6 rfl (by kernel_rfl) rfl (fun _ => hs.to) (fun _ => E.move rfl) (D.evP 7 rfl (by kernel_rfl) rfl (fun _ => hs.to) (fun _ => E.move rfl) (D.evP 8 rfl (by kernel_rfl) rfl (fun _ => hs.to) (fun _ => E.move rfl) ?_))
 refine D.evP 9 rfl (by kernel_rfl) rfl (fun _ => hs.to) (fun _ => (E.add rfl rfl (by omega) (by omega)).isI (c := ((a + k : Nat) : Int)) (by omega)) ?_
 refine D.evP 10 rfl (by kernel_rfl) rfl (fun _ => hs.to) (fun _ => E.indexAddr rfl rfl Tryz.underlying58 Tryz.sz54 rfl (by first | omega | decide)) ?_
 refine D.evP 12 rfl (by kernel_rfl) rfl (fun _ => hs.to) (fun _ => E.move rfl) (D.evP 13 rfl (by kernel_rfl) rfl (fun _ => hs.to) (fun _ => E.move rfl) ?_)
 refine D.evP 14 rfl (by kernel_rfl) rfl (fun _ => hs.to) (fun _ => E.indexAddr rfl rfl Tryz.underlying58 Tryz.sz54 rfl (by first | omega | decide)) ?_
 refine D.ev 11 rfl (by kernel_rfl) rfl hs.to (fun _ hS => E.loadRowC rfl Tryz.underlying54 rfl Tryz.sz54 ⟨A2 _ hS, Enc.len _⟩) (D.ev 15 rfl (by kernel_rfl) rfl hs.to (fun _ hS => E.loadRowC rfl Tryz.underlying54 rfl Tryz.sz54 ⟨A1 _ hS, Enc.len _⟩) ?_)
 refine D.evP 16 rfl (by kernel_rfl) rfl (fun _ => hs.to) (fun _ => E.indexAddr rfl rfl Tryz.underlying58 Tryz.sz54 rfl (by first | omega | decide)) ?_
 refine D.act 17 rfl (by kernel_rfl) (R.dset (a) hs (r2) rfl rfl Tryz.sz54 (by omega) ?_)
 intro w10a F10a r10a hs
 refine D.backT (by kernel_rfl) ?_
 refine D.evP 18 rfl (by kernel_rfl) rfl (np (by kernel_rfl)) (fun _ => E.indexAddr rfl rfl Tryz.underlying58 Tryz.sz54 rfl (by first | omega | decide)) ?_
 refine D.act 19 rfl (by kernel_rfl) (R.dset (a + k) hs r10a rfl rfl Tryz.sz54 (by omega) ?_)
 intro w10 F10 r10 hs
 refine D.backT (by kernel_rfl) (D.done rfl (by kernel_rfl) (X.keep [(0, _), (3, _), (8, _), (9, _), (12, _)] ⟨rfl, rfl, rfl, rfl, rfl, trivial⟩ (X.next (C.region (R.ev rfl (E.move rfl) (R.ev rfl (E.move rfl) (R.ev rfl (E.move rfl) (R.ev rfl (E.move rfl) ?_))))))))
 refine R.ev rfl (E.move rfl) ?_
 refine R.call ⟨_, _, Tryz.func86, rfl, by kernel_rfl⟩ rfl rfl (ausift_any hf 0 k a hs r10 (by omega) (by omega) hm) ?_
 rintro _ w11 ⟨F11, r11, hs⟩
 refine R.done (X.keep [(0, _), (3, _), (8, _), (9, _), (12, _)] ⟨rfl, rfl, rfl, rfl, rfl, trivial⟩ (X.blockNormal (X.next (C.region (R.ev rfl (E.move rfl) (R.ev rfl (E.sub rfl rfl (by omega) (by omega)) (R.ev rfl (E.assign rfl) (R.done ?_))))))))
 refine X.keep [(0, _), (3, _), (8, _), (9, _), (12, _)] ⟨rfl, rfl, rfl, rfl, rfl, trivial⟩ ?_
 exact X.again (k, _, F11) ⟨rfl, rfl, rfl, rfl, rfl, trivial⟩ ⟨he2, by omega, r11, hs⟩ (by show k < k + 1; omega)
 refine C.exit (X.thenExit (X.loopExit (X.blockExit (X.bodyNormal (X.ret0 rfl ?_)))))
 have hk0 : k = 0 := by omega
 subst hk0
 exact ⟨F2, by rw [← he2]; exact r2, hs⟩
theorem aurev_any (a b0 : Nat) (cv : Value) (hs : Sat K w (F :: Rs)) (hr : auA b m c0 d F) (hab : a < b0) (hb : b0 ≤ m) (hm : m ≤ 1000000000) :
   Ret Tryz.prog 76 #[.slice (some ⟨b, 0, none⟩) m c0, .int .i64 (a : Nat), .int .i64 (b0 : Nat), cv] w fun _ w' => ∃ F', auA b m c0 (reverseRange d a b0) F' ∧ Sat K w' (F' :: Rs) := by
 refine Ret.enter (n := 34) (args := [.slice (some ⟨b, 0, none⟩) m c0, .int .i64 (a : Nat), .int .i64 (b0 : Nat), cv]) Tryz.func76 rfl rfl ?_
 refine C.keep [(0, _), (1, _), (2, _)] ⟨rfl, rfl, rfl, trivial⟩ (C.seq (C.region (R.ev rfl (E.move rfl) (R.ev rfl (E.assign rfl) (R.done (X.keep [(0, _), (2, _), (8, _)] ⟨rfl, rfl, rfl, trivial⟩ (X.next (C.seq ?_))))))))
 refine C.region (R.ev rfl (E.move rfl) ?_)
 refine R.ev rfl ((E.sub rfl rfl (by omega) (by omega)).isI (c := ((b0 - 1 : Nat) : Int)) (by omega)) ?_
 refine R.ev rfl (E.assign rfl) (R.done (X.keep [(0, _), (8, _), (9, _)] ⟨rfl, rfl, rfl, trivial⟩ (X.next (C.block ?_))))
 refine C.loop (T := Nat × Nat × Array (Vec 16) × Hl) [(0, _)] (fun (i, j, _, _) => [(8, .int .i64 (i : Nat)), (9, .int .i64 (j : Nat))]) (fun (i, j, d1, F1) w' => reverseLoop i j d1 = reverseRange d a b0 ∧ i ≤ m ∧ j < m ∧ auA b m c0 d1 F1 ∧ Sat K w' (F1 :: Rs)) (fun (i, j, _) => j - i) ((a, b0 - 1, d, F)) ⟨rfl, rfl, rfl, trivial⟩ ⟨rfl, by omega, by omega, hr, hs⟩ ?_
 rintro ⟨i, j, d1, F1⟩ w1 ⟨he, hi, hj, r1, hs⟩
 refine C.keep [(0, _), (8, _), (9, _)] ⟨rfl, rfl, rfl, trivial⟩ (C.seq (C.seq (C.region (R.ev rfl (E.move rfl) (R.ev rfl (E.move rfl) (R.ev rfl (E.lss rfl rfl) (R.done (X.keep [(0, _), (8, _), (9, _), (15, _)] ⟨rfl, rfl, rfl, rfl, trivial⟩ ?_))))))))
 refine X.next ?_
 refine C.cdec rfl (fun h15 => ?_) (fun h15 => ?_)
 have A1 := r1.el (K := K) (Hs := F1 :: Rs) (i := i) (by omega)
 have A2 := r1.el (K := K) (Hs := F1 :: Rs) (i := j) (by omega)
 refine C.skip (X.next (C.block (C.seq ?_)))
 refine C.drawn (SatS hs) ([7, 11], [0, 1, 2, 3, 4, 5, 6, 8, 9, 10, 12, 14]) (by kernel_rfl) ?_
 have hs := hs.drew
 refine D.evP 0 rfl (by kernel_rfl) rfl (fun _ => hs.to) (fun _ => E.move rfl) (D.evP 1 rfl (by kernel_rfl) rfl (fun _ => hs.to) (fun _ => E.move rfl) (D.evP 2 rfl (by kernel_rfl) rfl (fun _ => hs.to) (fun _ => E.move rfl) (D.evP 3 rfl (by kernel_rfl) rfl (fun _ => hs.to) (fun _ => E.move rfl) (D.evP 4 rfl (by kernel_rfl) rfl (fun _ => hs.to) (fun _ => E.move rfl) (D.evP 5 rfl (by kernel_rfl) rfl (fun _ => hs.to) (fun _ => E.move rfl) ?_)))))
 refine D.evP 6 rfl (by kernel_rfl) rfl (fun _ => hs.to) (fun _ => E.indexAddr rfl rfl Tryz.underlying58 Tryz.sz54 rfl (by first | omega | decide)) ?_
 refine D.evP 8 rfl (by kernel_rfl) rfl (fun _ => hs.to) (fun _ => E.move rfl) (D.evP 9 rfl (by kernel_rfl) rfl (fun _ => hs.to) (fun _ => E.move rfl) ?_)
 refine D.evP 10 rfl (by kernel_rfl) rfl (fun _ => hs.to) (fun _ => E.indexAddr rfl rfl Tryz.underlying58 Tryz.sz54 rfl (by first | omega | decide)) ?_
 refine D.ev 7 rfl (by kernel_rfl) rfl hs.to (fun _ hS => E.loadRowC rfl Tryz.underlying54 rfl Tryz.sz54 ⟨A2 _ hS, Enc.len _⟩) (D.ev 11 rfl (by kernel_rfl) rfl hs.to (fun _ hS => E.loadRowC rfl Tryz.underlying54 rfl Tryz.sz54 ⟨A1 _ hS, Enc.len _⟩) ?_)
 refine D.evP 12 rfl (by kernel_rfl) rfl (fun _ => hs.to) (fun _ => E.indexAddr rfl rfl Tryz.underlying58 Tryz.sz54 rfl (by first | omega | decide)) ?_
 refine D.act 13 rfl (by kernel_rfl) (R.dset (i) hs (r1) rfl rfl Tryz.sz54 (by omega) ?_)
 intro w3a F3a r3a hs
 refine D.backT (by kernel_rfl) ?_
 refine D.evP 14 rfl (by kernel_rfl) rfl (np (by kernel_rfl)) (fun _ => E.indexAddr rfl rfl Tryz.underlying58 Tryz.sz54 rfl (by first | omega | decide)) ?_
 refine D.act 15 rfl (by kernel_rfl) (R.dset (j) hs r3a rfl rfl Tryz.sz54 (by omega) ?_)
 intro w3 F3 r3 hs
 refine D.backT (by kernel_rfl) (D.done rfl (by kernel_rfl) (X.keep [(0, _), (8, _), (9, _)] ⟨rfl, rfl, rfl, trivial⟩ (X.next (C.seq (C.region (R.ev rfl (E.move rfl) ?_))))))
 refine R.ev rfl ((E.add rfl rfl (by omega) (by omega)).isI (c := ((i + 1 : Nat) : Int)) (by omega)) ?_
 refine R.ev rfl (E.assign rfl) (R.done (X.keep [(0, _), (8, _), (9, _)] ⟨rfl, rfl, rfl, trivial⟩ (X.next (C.region (R.ev rfl (E.move rfl) ?_)))))
 refine R.ev rfl ((E.sub rfl rfl (by omega) (by omega)).isI (c := ((j - 1 : Nat) : Int)) (by omega)) ?_
 refine R.ev rfl (E.assign rfl) (R.done (X.keep [(0, _), (8, _), (9, _)] ⟨rfl, rfl, rfl, trivial⟩ (X.blockNormal ?_)))
 exact X.again (i + 1, j - 1, _, F3) ⟨rfl, rfl, rfl, trivial⟩ ⟨(reverse_go (d := d1) (by omega)).symm.trans he, by omega, by omega, r3, hs⟩ (by show _ - _ < _ - _; omega)
 refine C.exit (X.thenExit (X.loopExit (X.blockExit (X.bodyNormal (X.ret0 rfl ?_)))))
 exact ⟨F1, by rw [← he, reverse_stop (by omega)]; exact r1, hs⟩
theorem aupart_any (hf : auCmp K Rs fid fst cps lt) (a b0 pv : Nat) (hs : Sat K w (F :: Rs)) (hr : auA b m c0 d F) (hap : a ≤ pv) (hpb : pv < b0) (hb : b0 ≤ m) (hm : m ≤ 1000000000) :
   Ret Tryz.prog 79 #[.slice (some ⟨b, 0, none⟩) m c0, .int .i64 (a : Nat), .int .i64 (b0 : Nat), .int .i64 (pv : Nat), .func (.func fid) fst.toArray cps.toArray] w fun r w' => r = .tuple #[.int .i64 ((partition lt d a b0 pv).1 : Nat), .bool (partition lt d a b0 pv).2.1] ∧ ∃ F', auA b m c0 (partition lt d a b0 pv).2.2 F' ∧ Sat K w' (F' :: Rs) := by
 refine Ret.enter (n := 178) (args := [.slice (some ⟨b, 0, none⟩) m c0, .int .i64 (a : Nat), .int .i64 (b0 : Nat), .int .i64 (pv : Nat), .func (.func fid) fst.toArray cps.toArray]) Tryz.func79 rfl rfl ?_
 refine C.keep [(0, _), (1, _), (2, _), (3, _), (4, _)] ⟨rfl, rfl, rfl, rfl, rfl, trivial⟩ (C.seq (C.region (R.ev rfl (E.assign rfl) (R.ev rfl (E.assign rfl) (R.done (X.keep [(0, _), (1, _), (2, _), (3, _), (4, _)] ⟨rfl, rfl, rfl, rfl, rfl, trivial⟩ (X.next (C.seq ?_))))))))
 refine C.drawn (SatS hs) ([7, 11], [0, 1, 2, 3, 4, 5, 6, 8, 9, 10, 12, 14]) (by kernel_rfl) ?_
 have hs := hs.drew
 have A1 := hr.el (K := K) (Hs := F :: Rs) (i := a) (by omega)
 have A2 := hr.el (K := K) (Hs := F :: Rs) (i := pv) (by omega)
 refine D.evP 0 rfl (by kernel_rfl) rfl (fun _ => hs.to) (fun _ => E.move rfl) (D.evP 1 rfl (by kernel_rfl) rfl (fun _ => hs.to) (fun _ => E.move rfl) (D.evP 2 rfl (by kernel_rfl) rfl (fun _ => hs.to) (fun _ => E.move rfl) (D.evP 3 rfl (by kernel_rfl) rfl (fun _ => hs.to) (fun _ => E.move rfl) (D.evP 4 rfl (by kernel_rfl) rfl (fun _ => hs.to) (fun _ => E.move rfl) (D.evP 5 rfl (by kernel_rfl) rfl (fun _ => hs.to) (fun _ => E.move rfl) ?_)))))
 refine D.evP 6 rfl (by kernel_rfl) rfl (fun _ => hs.to) (fun _ => E.indexAddr rfl rfl Tryz.underlying58 Tryz.sz54 rfl (by first | omega | decide)) ?_
 refine D.evP 8 rfl (by kernel_rfl) rfl (fun _ => hs.to) (fun _ => E.move rfl) (D.evP 9 rfl (by kernel_rfl) rfl (fun _ => hs.to) (fun _ => E.move rfl) ?_)
 refine D.evP 10 rfl (by kernel_rfl) rfl (fun _ => hs.to) (fun _ => E.indexAddr rfl rfl Tryz.underlying58 Tryz.sz54 rfl (by first | omega | decide)) ?_
 refine D.ev 7 rfl (by kernel_rfl) rfl hs.to (fun _ hS => E.loadRowC rfl Tryz.underlying54 rfl Tryz.sz54 ⟨A2 _ hS, Enc.len _⟩) (D.ev 11 rfl (by kernel_rfl) rfl hs.to (fun _ hS => E.loadRowC rfl Tryz.underlying54 rfl Tryz.sz54 ⟨A1 _ hS, Enc.len _⟩) ?_)
 refine D.evP 12 rfl (by kernel_rfl) rfl (fun _ => hs.to) (fun _ => E.indexAddr rfl rfl Tryz.underlying58 Tryz.sz54 rfl (by first | omega | decide)) ?_
 refine D.act 13 rfl (by kernel_rfl) (R.dset (a) hs (hr) rfl rfl Tryz.sz54 (by omega) ?_)
 intro w1a F1a r1a hs
 refine D.backT (by kernel_rfl) ?_
 refine D.evP 14 rfl (by kernel_rfl) rfl (np (by kernel_rfl)) (fun _ => E.indexAddr rfl rfl Tryz.underlying58 Tryz.sz54 rfl (by first | omega | decide)) ?_
 refine D.act 15 rfl (by kernel_rfl) (R.dset (pv) hs r1a rfl rfl Tryz.sz54 (by omega) ?_)
 intro w1 F1 r1 hs
 refine D.backT (by kernel_rfl) (D.done rfl (by kernel_rfl) (X.keep [(0, _), (1, _), (2, _), (4, _)] ⟨rfl, rfl, rfl, rfl, trivial⟩ (X.next (C.seq (C.region ?_)))))
 generalize hd0 : (d.setIfInBounds a d[pv]!).setIfInBounds pv d[a]! = d0 at r1
 have hd0 : swp d a pv = d0 := hd0
 refine R.ev rfl (E.move rfl) ?_
 refine R.ev rfl ((E.add rfl rfl (by omega) (by omega)).isI (c := ((a + 1 : Nat) : Int)) (by omega)) ?_
 refine R.ev rfl (E.move rfl) ?_
 refine R.ev rfl ((E.sub rfl rfl (by omega) (by omega)).isI (c := ((b0 - 1 : Nat) : Int)) (by omega)) ?_
 refine R.ev rfl (E.assign rfl) (R.ev rfl (E.assign rfl) (R.done (X.keep [(0, _), (1, _), (4, _), (12, _), (13, _)] ⟨rfl, rfl, rfl, rfl, rfl, trivial⟩ (X.next (C.seq (C.block ?_))))))
 refine C.loop  [(0, _), (1, _), (4, _), (13, _)] (fun i => [(12, .int .i64 (i : Nat))]) (fun i w' => scanUp (fun x => lt x d0[a]!) d0 (b0 - 1) i = scanUp (fun x => lt x d0[a]!) d0 (b0 - 1) (a + 1) ∧ a + 1 ≤ i ∧ i ≤ b0 ∧ Sat K w' (F1 :: Rs)) (fun i => b0 - i) (a + 1) ⟨rfl, rfl, rfl, rfl, rfl, trivial⟩ ⟨rfl, by omega, by omega, hs⟩ ?_
 rintro i w2 ⟨hi, hai, hib, hs⟩
 refine C.keep [(0, _), (1, _), (4, _), (12, _), (13, _)] ⟨rfl, rfl, rfl, rfl, rfl, trivial⟩ (C.seq (C.seq ?_))
 refine C.cut [(0, _), (1, _), (4, _), (12, _), (13, _)] (fun (_ : Unit) => [(47, .bool (decide (((i : Nat) : Int) ≤ ((b0 - 1 : Nat) : Int)) && lt d0[i]! d0[a]!))]) (fun _ w' => Sat K w' (F1 :: Rs)) ⟨rfl, rfl, rfl, rfl, rfl, trivial⟩ ?_ ?_
 refine C.drawn (SatS hs) ([8, 12], [0, 1, 2, 3, 4, 5, 6, 7, 9, 10, 11, 14, 15]) (by kernel_rfl) ?_
 have hs := hs.drew
 refine D.evP 0 rfl (by kernel_rfl) rfl (fun _ => hs.to) (fun _ => E.move rfl) (D.evP 1 rfl (by kernel_rfl) rfl (fun _ => hs.to) (fun _ => E.move rfl) (D.evP 2 rfl (by kernel_rfl) rfl (fun _ => hs.to) (fun _ => E.leq rfl rfl) (D.evP 3 rfl (by kernel_rfl) rfl (fun _ => hs.to) (fun _ => E.move rfl) ?_)))
 refine D.split 35 rfl (fun h35 => ?_) (fun h35 => ?_)
 have h35' := of_decide_eq_true h35
 have A1 := r1.el (K := K) (Hs := F1 :: Rs) (i := i) (by omega)
 have A2 := r1.el (K := K) (Hs := F1 :: Rs) (i := a) (by omega)
 refine D.evPG 4 rfl (by kernel_rfl) rfl rfl rfl (fun _ => hs.to) (fun _ => E.move rfl) (D.evPG 5 rfl (by kernel_rfl) rfl rfl rfl (fun _ => hs.to) (fun _ => E.move rfl) (D.evPG 6 rfl (by kernel_rfl) rfl rfl rfl (fun _ => hs.to) (fun _ => E.move rfl) ?_))
 refine D.evPG 7 rfl (by kernel_rfl) rfl rfl rfl (fun _ => hs.to) (fun _ => E.indexAddr rfl rfl Tryz.underlying58 Tryz.sz54 rfl (by first | omega | decide)) ?_
 refine D.evPG 9 rfl (by kernel_rfl) rfl rfl rfl (fun _ => hs.to) (fun _ => E.move rfl) (D.evPG 10 rfl (by kernel_rfl) rfl rfl rfl (fun _ => hs.to) (fun _ => E.move rfl) ?_)
 refine D.evPG 11 rfl (by kernel_rfl) rfl rfl rfl (fun _ => hs.to) (fun _ => E.indexAddr rfl rfl Tryz.underlying58 Tryz.sz54 rfl (by first | omega | decide)) ?_
 refine D.evG 8 rfl (by kernel_rfl) rfl rfl rfl hs.to (fun _ hS => E.loadRowC rfl Tryz.underlying54 rfl Tryz.sz54 ⟨A1 _ hS, Enc.len _⟩) (D.evG 12 rfl (by kernel_rfl) rfl rfl rfl hs.to (fun _ hS => E.loadRowC rfl Tryz.underlying54 rfl Tryz.sz54 ⟨A2 _ hS, Enc.len _⟩) (D.act 13 rfl (by kernel_rfl) (R.gyes rfl rfl ?_)))
 refine R.callV hf.1 rfl rfl rfl (hf.2 _ _ _ _ inferInstance hs) ?_
 rintro _ w3 ⟨cc3, rfl, hcc3, hs⟩
 refine D.backT (by kernel_rfl) ?_
 refine D.evPG 14 rfl (by kernel_rfl) rfl rfl rfl (np (by kernel_rfl)) (fun _ => (E.lss rfl rfl).isB (c := lt d0[i]! d0[a]!) hcc3) ?_
 refine D.evP 15 rfl (by kernel_rfl) rfl (np (by kernel_rfl)) (fun _ => E.pickT rfl rfl) (D.done rfl (by kernel_rfl) (X.keep [(0, _), (1, _), (4, _), (12, _), (13, _), (47, _)] ⟨rfl, rfl, rfl, rfl, rfl, rfl, trivial⟩ ?_))
 refine X.cut (()) ⟨lkV rfl ?_, rfl, rfl, rfl, rfl, rfl, trivial⟩ ?_
 · first | exact gT h35 | exact gF h35
 exact hs
 refine D.skipP 4 rfl (by kernel_rfl) rfl rfl rfl (fun _ => hs.to) (D.skipP 5 rfl (by kernel_rfl) rfl rfl rfl (fun _ => hs.to) (D.skipP 6 rfl (by kernel_rfl) rfl rfl rfl (fun _ => hs.to) (D.skipP 7 rfl (by kernel_rfl) rfl rfl rfl (fun _ => hs.to) (D.skipP 9 rfl (by kernel_rfl) rfl rfl rfl (fun _ => hs.to) (D.skipP 10 rfl (by kernel_rfl) rfl rfl rfl (fun _ => hs.to) (D.skipP 11 rfl (by kernel_rfl) rfl rfl rfl (fun _ => hs.to) (D.skip 8 rfl (by kernel_rfl) rfl rfl rfl hs.to (D.skip 12 rfl (by kernel_rfl) rfl rfl rfl hs.to ?_))))))))
 refine D.act 13 rfl (by kernel_rfl) (R.gskip rfl rfl rfl (D.backT (by kernel_rfl) (D.skipP 14 rfl (by kernel_rfl) rfl rfl rfl (np (by kernel_rfl)) (D.evP 15 rfl (by kernel_rfl) rfl (np (by kernel_rfl)) (fun _ => E.pickF rfl rfl) (D.done rfl (by kernel_rfl) (X.keep [(0, _), (1, _), (4, _), (12, _), (13, _), (47, _)] ⟨rfl, rfl, rfl, rfl, rfl, rfl, trivial⟩ ?_))))))
 refine X.cut (()) ⟨lkV rfl ?_, rfl, rfl, rfl, rfl, rfl, trivial⟩ ?_
 · first | exact gT h35 | exact gF h35
 exact hs
 rintro _ w3 hs
 refine X.keep [(0, _), (1, _), (4, _), (12, _), (13, _), (47, _)] ⟨rfl, rfl, rfl, rfl, rfl, rfl, trivial⟩ (X.next ?_)
 refine C.cbool rfl (fun h47 => ?_) (fun h47 => ?_)
 have hT := and_T h47
 refine C.skip (X.next (C.block (C.region (R.ev rfl (E.move rfl) ?_))))
 refine R.ev rfl ((E.add rfl rfl (by omega) (by omega)).isI (c := ((i + 1 : Nat) : Int)) (by omega)) ?_
 refine R.ev rfl (E.assign rfl) (R.done (X.keep [(0, _), (1, _), (4, _), (12, _), (13, _)] ⟨rfl, rfl, rfl, rfl, rfl, trivial⟩ (X.blockNormal ?_)))
 exact X.again (i + 1) ⟨rfl, rfl, rfl, rfl, rfl, trivial⟩ ⟨by rw [← hi, scanUp_go (p := fun x => lt x d0[a]!) (by omega) hT.2], by omega, by omega, hs⟩ (by omega)
 have hF := and_F h47
 rw [scanUp_stop (p := fun x => lt x d0[a]!) (fun hh => hF ⟨by omega, hh.2⟩)] at hi
 refine C.exit (X.thenExit (X.loopExit (X.blockExit (X.next (C.seq (C.block ?_))))))
 refine C.loop  [(0, _), (1, _), (4, _), (12, _)] (fun j => [(13, .int .i64 (j : Nat))]) (fun j w' => scanDown (fun x => !lt x d0[a]!) d0 i j = scanDown (fun x => !lt x d0[a]!) d0 i (b0 - 1) ∧ a ≤ j ∧ j ≤ b0 - 1 ∧ Sat K w' (F1 :: Rs)) (fun j => j) (b0 - 1) ⟨rfl, rfl, rfl, rfl, rfl, trivial⟩ ⟨rfl, by omega, by omega, hs⟩ ?_
 rintro j w4 ⟨hj, haj, hjb, hs⟩
 refine C.keep [(0, _), (1, _), (4, _), (12, _), (13, _)] ⟨rfl, rfl, rfl, rfl, rfl, trivial⟩ (C.seq (C.seq ?_))
 refine C.cut [(0, _), (1, _), (4, _), (12, _), (13, _)] (fun (_ : Unit) => [(66, .bool (decide (((i : Nat) : Int) ≤ ((j : Nat) : Int)) && !lt d0[j]! d0[a]!))]) (fun _ w' => Sat K w' (F1 :: Rs)) ⟨rfl, rfl, rfl, rfl, rfl, trivial⟩ ?_ ?_
 refine C.drawn (SatS hs) ([8, 12], [0, 1, 2, 3, 4, 5, 6, 7, 9, 10, 11, 14, 15, 16]) (by kernel_rfl) ?_
 have hs := hs.drew
 refine D.evP 0 rfl (by kernel_rfl) rfl (fun _ => hs.to) (fun _ => E.move rfl) (D.evP 1 rfl (by kernel_rfl) rfl (fun _ => hs.to) (fun _ => E.move rfl) (D.evP 2 rfl (by kernel_rfl) rfl (fun _ => hs.to) (fun _ => E.leq rfl rfl) (D.evP 3 rfl (by kernel_rfl) rfl (fun _ => hs.to) (fun _ => E.move rfl) ?_)))
 refine D.split 53 rfl (fun h53 => ?_) (fun h53 => ?_)
 have h53' := of_decide_eq_true h53
 have A1 := r1.el (K := K) (Hs := F1 :: Rs) (i := j) (by omega)
 have A2 := r1.el (K := K) (Hs := F1 :: Rs) (i := a) (by omega)
 refine D.evPG 4 rfl (by kernel_rfl) rfl rfl rfl (fun _ => hs.to) (fun _ => E.move rfl) (D.evPG 5 rfl (by kernel_rfl) rfl rfl rfl (fun _ => hs.to) (fun _ => E.move rfl) (D.evPG 6 rfl (by kernel_rfl) rfl rfl rfl (fun _ => hs.to) (fun _ => E.move rfl) ?_))
 refine D.evPG 7 rfl (by kernel_rfl) rfl rfl rfl (fun _ => hs.to) (fun _ => E.indexAddr rfl rfl Tryz.underlying58 Tryz.sz54 rfl (by first | omega | decide)) ?_
 refine D.evPG 9 rfl (by kernel_rfl) rfl rfl rfl (fun _ => hs.to) (fun _ => E.move rfl) (D.evPG 10 rfl (by kernel_rfl) rfl rfl rfl (fun _ => hs.to) (fun _ => E.move rfl) ?_)
 refine D.evPG 11 rfl (by kernel_rfl) rfl rfl rfl (fun _ => hs.to) (fun _ => E.indexAddr rfl rfl Tryz.underlying58 Tryz.sz54 rfl (by first | omega | decide)) ?_
 refine D.evG 8 rfl (by kernel_rfl) rfl rfl rfl hs.to (fun _ hS => E.loadRowC rfl Tryz.underlying54 rfl Tryz.sz54 ⟨A1 _ hS, Enc.len _⟩) (D.evG 12 rfl (by kernel_rfl) rfl rfl rfl hs.to (fun _ hS => E.loadRowC rfl Tryz.underlying54 rfl Tryz.sz54 ⟨A2 _ hS, Enc.len _⟩) (D.act 13 rfl (by kernel_rfl) (R.gyes rfl rfl ?_)))
 refine R.callV hf.1 rfl rfl rfl (hf.2 _ _ _ _ inferInstance hs) ?_
 rintro _ w5 ⟨cc5, rfl, hcc5, hs⟩
 refine D.backT (by kernel_rfl) ?_
 refine D.evPG 14 rfl (by kernel_rfl) rfl rfl rfl (np (by kernel_rfl)) (fun _ => (E.lss rfl rfl).isB (c := lt d0[j]! d0[a]!) hcc5) ?_
 refine D.evPG 15 rfl (by kernel_rfl) rfl rfl rfl (np (by kernel_rfl)) (fun _ => (E.not rfl).isB (c := !(lt d0[j]! d0[a]!)) rfl) ?_
 refine D.evP 16 rfl (by kernel_rfl) rfl (np (by kernel_rfl)) (fun _ => E.pickT rfl rfl) (D.done rfl (by kernel_rfl) (X.keep [(0, _), (1, _), (4, _), (12, _), (13, _), (66, _)] ⟨rfl, rfl, rfl, rfl, rfl, rfl, trivial⟩ ?_))
 refine X.cut (()) ⟨lkV rfl ?_, rfl, rfl, rfl, rfl, rfl, trivial⟩ ?_
 · first | exact gT h53 | exact gF h53
 exact hs
 refine D.skipP 4 rfl (by kernel_rfl) rfl rfl rfl (fun _ => hs.to) (D.skipP 5 rfl (by kernel_rfl) rfl rfl rfl (fun _ => hs.to) (D.skipP 6 rfl (by kernel_rfl) rfl rfl rfl (fun _ => hs.to) (D.skipP 7 rfl (by kernel_rfl) rfl rfl rfl (fun _ => hs.to) (D.skipP 9 rfl (by kernel_rfl) rfl rfl rfl (fun _ => hs.to) (D.skipP 10 rfl (by kernel_rfl) rfl rfl rfl (fun _ => hs.to) (D.skipP 11 rfl (by kernel_rfl) rfl rfl rfl (fun _ => hs.to) (D.skip 8 rfl (by kernel_rfl) rfl rfl rfl hs.to (D.skip 12 rfl (by kernel_rfl) rfl rfl rfl hs.to ?_))))))))
 refine D.act 13 rfl (by kernel_rfl) (R.gskip rfl rfl rfl (D.backT (by kernel_rfl) (D.skipP 14 rfl (by kernel_rfl) rfl rfl rfl (np (by kernel_rfl)) (D.skipP 15 rfl (by kernel_rfl) rfl rfl rfl (np (by kernel_rfl)) (D.evP 16 rfl (by kernel_rfl) rfl (np (by kernel_rfl)) (fun _ => E.pickF rfl rfl) (D.done rfl (by kernel_rfl) (X.keep [(0, _), (1, _), (4, _), (12, _), (13, _), (66, _)] ⟨rfl, rfl, rfl, rfl, rfl, rfl, trivial⟩ ?_)))))))
 refine X.cut (()) ⟨lkV rfl ?_, rfl, rfl, rfl, rfl, rfl, trivial⟩ ?_
 · first | exact gT h53 | exact gF h53
 exact hs
 rintro _ w5 hs
 refine X.keep [(0, _), (1, _), (4, _), (12, _), (13, _), (66, _)] ⟨rfl, rfl, rfl, rfl, rfl, rfl, trivial⟩ (X.next ?_)
 refine C.cbool rfl (fun h66 => ?_) (fun h66 => ?_)
 have hT := and_T h66
 refine C.skip (X.next (C.block (C.region (R.ev rfl (E.move rfl) ?_))))
 refine R.ev rfl ((E.sub rfl rfl (by omega) (by omega)).isI (c := ((j - 1 : Nat) : Int)) (by omega)) ?_
 refine R.ev rfl (E.assign rfl) (R.done (X.keep [(0, _), (1, _), (4, _), (12, _), (13, _)] ⟨rfl, rfl, rfl, rfl, rfl, trivial⟩ (X.blockNormal ?_)))
 exact X.again (j - 1) ⟨rfl, rfl, rfl, rfl, rfl, trivial⟩ ⟨by rw [← hj, scanDown_go (p := fun x => !lt x d0[a]!) (by omega) (by omega) hT.2], by omega, by omega, hs⟩ (by omega)
 have hF := and_F h66
 rw [scanDown_stop (p := fun x => !lt x d0[a]!) (fun hh => hF ⟨by omega, hh.2⟩)] at hj
 refine C.exit (X.thenExit (X.loopExit (X.blockExit (X.next (C.seq (C.seq (C.region (R.ev rfl (E.move rfl) ?_))))))))
 refine R.ev rfl (E.move rfl) (R.ev rfl (E.gtr rfl rfl) (R.done (X.keep [(0, _), (1, _), (4, _), (12, _), (13, _), (71, _)] ⟨rfl, rfl, rfl, rfl, rfl, rfl, trivial⟩ (X.next ?_))))
 refine C.cdec rfl (fun h71 => ?_) (fun h71 => ?_)
 refine C.seq ?_
 refine C.drawn (SatS hs) ([7, 11], [0, 1, 2, 3, 4, 5, 6, 8, 9, 10, 12, 14]) (by kernel_rfl) ?_
 have hs := hs.drew
 have A1 := r1.el (K := K) (Hs := F1 :: Rs) (i := j) (by omega)
 have A2 := r1.el (K := K) (Hs := F1 :: Rs) (i := a) (by omega)
 refine D.evP 0 rfl (by kernel_rfl) rfl (fun _ => hs.to) (fun _ => E.move rfl) (D.evP 1 rfl (by kernel_rfl) rfl (fun _ => hs.to) (fun _ => E.move rfl) (D.evP 2 rfl (by kernel_rfl) rfl (fun _ => hs.to) (fun _ => E.move rfl) (D.evP 3 rfl (by kernel_rfl) rfl (fun _ => hs.to) (fun _ => E.move rfl) (D.evP 4 rfl (by kernel_rfl) rfl (fun _ => hs.to) (fun _ => E.move rfl) (D.evP 5 rfl (by kernel_rfl) rfl (fun _ => hs.to) (fun _ => E.move rfl) ?_)))))
 refine D.evP 6 rfl (by kernel_rfl) rfl (fun _ => hs.to) (fun _ => E.indexAddr rfl rfl Tryz.underlying58 Tryz.sz54 rfl (by first | omega | decide)) ?_
 refine D.evP 8 rfl (by kernel_rfl) rfl (fun _ => hs.to) (fun _ => E.move rfl) (D.evP 9 rfl (by kernel_rfl) rfl (fun _ => hs.to) (fun _ => E.move rfl) ?_)
 refine D.evP 10 rfl (by kernel_rfl) rfl (fun _ => hs.to) (fun _ => E.indexAddr rfl rfl Tryz.underlying58 Tryz.sz54 rfl (by first | omega | decide)) ?_
 refine D.ev 7 rfl (by kernel_rfl) rfl hs.to (fun _ hS => E.loadRowC rfl Tryz.underlying54 rfl Tryz.sz54 ⟨A2 _ hS, Enc.len _⟩) (D.ev 11 rfl (by kernel_rfl) rfl hs.to (fun _ hS => E.loadRowC rfl Tryz.underlying54 rfl Tryz.sz54 ⟨A1 _ hS, Enc.len _⟩) ?_)
 refine D.evP 12 rfl (by kernel_rfl) rfl (fun _ => hs.to) (fun _ => E.indexAddr rfl rfl Tryz.underlying58 Tryz.sz54 rfl (by first | omega | decide)) ?_
 refine D.act 13 rfl (by kernel_rfl) (R.dset (j) hs (r1) rfl rfl Tryz.sz54 (by omega) ?_)
 intro w8a F8a r8a hs
 refine D.backT (by kernel_rfl) ?_
 refine D.evP 14 rfl (by kernel_rfl) rfl (np (by kernel_rfl)) (fun _ => E.indexAddr rfl rfl Tryz.underlying58 Tryz.sz54 rfl (by first | omega | decide)) ?_
 refine D.act 15 rfl (by kernel_rfl) (R.dset (a) hs r8a rfl rfl Tryz.sz54 (by omega) ?_)
 intro w8 F8 r8 hs
 refine D.backT (by kernel_rfl) (D.done rfl (by kernel_rfl) (X.keep [(13, _)] ⟨rfl, trivial⟩ (X.next (C.seq (C.region (R.ev rfl (E.move rfl) (R.ev rfl (E.assign rfl) (R.ev rfl (E.assign rfl) ?_))))))))
 refine R.done (X.keep [(10, _), (11, _)] ⟨rfl, rfl, trivial⟩ (X.next (C.ret (X.thenRet (X.ret2 rfl rfl rfl ?_)))))
 rw [partition_yes hd0 hi.symm hj.symm (by omega)]
 exact ⟨rfl, F8, r8, hs⟩
 refine C.skip (X.next (C.seq ?_))
 refine C.drawn (SatS hs) ([7, 11], [0, 1, 2, 3, 4, 5, 6, 8, 9, 10, 12, 14]) (by kernel_rfl) ?_
 have hs := hs.drew
 have A1 := r1.el (K := K) (Hs := F1 :: Rs) (i := i) (by omega)
 have A2 := r1.el (K := K) (Hs := F1 :: Rs) (i := j) (by omega)
 refine D.evP 0 rfl (by kernel_rfl) rfl (fun _ => hs.to) (fun _ => E.move rfl) (D.evP 1 rfl (by kernel_rfl) rfl (fun _ => hs.to) (fun _ => E.move rfl) (D.evP 2 rfl (by kernel_rfl) rfl (fun _ => hs.to) (fun _ => E.move rfl) (D.evP 3 rfl (by kernel_rfl) rfl (fun _ => hs.to) (fun _ => E.move rfl) (D.evP 4 rfl (by kernel_rfl) rfl (fun _ => hs.to) (fun _ => E.move rfl) (D.evP 5 rfl (by kernel_rfl) rfl (fun _ => hs.to) (fun _ => E.move rfl) ?_)))))
 refine D.evP 6 rfl (by kernel_rfl) rfl (fun _ => hs.to) (fun _ => E.indexAddr rfl rfl Tryz.underlying58 Tryz.sz54 rfl (by first | omega | decide)) ?_
 refine D.evP 8 rfl (by kernel_rfl) rfl (fun _ => hs.to) (fun _ => E.move rfl) (D.evP 9 rfl (by kernel_rfl) rfl (fun _ => hs.to) (fun _ => E.move rfl) ?_)
 refine D.evP 10 rfl (by kernel_rfl) rfl (fun _ => hs.to) (fun _ => E.indexAddr rfl rfl Tryz.underlying58 Tryz.sz54 rfl (by first | omega | decide)) ?_
 refine D.ev 7 rfl (by kernel_rfl) rfl hs.to (fun _ hS => E.loadRowC rfl Tryz.underlying54 rfl Tryz.sz54 ⟨A2 _ hS, Enc.len _⟩) (D.ev 11 rfl (by kernel_rfl) rfl hs.to (fun _ hS => E.loadRowC rfl Tryz.underlying54 rfl Tryz.sz54 ⟨A1 _ hS, Enc.len _⟩) ?_)
 refine D.evP 12 rfl (by kernel_rfl) rfl (fun _ => hs.to) (fun _ => E.indexAddr rfl rfl Tryz.underlying58 Tryz.sz54 rfl (by first | omega | decide)) ?_
 refine D.act 13 rfl (by kernel_rfl) (R.dset (i) hs (r1) rfl rfl Tryz.sz54 (by omega) ?_)
 intro w10a F10a r10a hs
 refine D.backT (by kernel_rfl) ?_
 refine D.evP 14 rfl (by kernel_rfl) rfl (np (by kernel_rfl)) (fun _ => E.indexAddr rfl rfl Tryz.underlying58 Tryz.sz54 rfl (by first | omega | decide)) ?_
 refine D.act 15 rfl (by kernel_rfl) (R.dset (j) hs r10a rfl rfl Tryz.sz54 (by omega) ?_)
 intro w10 F10 r10 hs
 refine D.backT (by kernel_rfl) (D.done rfl (by kernel_rfl) (X.keep [(0, _), (1, _), (4, _), (12, _), (13, _)] ⟨rfl, rfl, rfl, rfl, rfl, trivial⟩ (X.next (C.seq (C.region (R.ev rfl (E.move rfl) ?_))))))
 refine R.ev rfl ((E.add rfl rfl (by omega) (by omega)).isI (c := ((i + 1 : Nat) : Int)) (by omega)) ?_
 refine R.ev rfl (E.assign rfl) (R.done (X.keep [(0, _), (1, _), (4, _), (12, _), (13, _)] ⟨rfl, rfl, rfl, rfl, rfl, trivial⟩ (X.next (C.seq (C.region (R.ev rfl (E.move rfl) ?_))))))
 refine R.ev rfl ((E.sub rfl rfl (by omega) (by omega)).isI (c := ((j - 1 : Nat) : Int)) (by omega)) ?_
 refine R.ev rfl (E.assign rfl) (R.done (X.keep [(0, _), (1, _), (4, _), (12, _), (13, _)] ⟨rfl, rfl, rfl, rfl, rfl, trivial⟩ (X.next (C.seq (C.block ?_)))))
 refine C.loop (T := Nat × Nat × Array (Vec 16) × Hl) [(0, _), (1, _), (4, _)] (fun (i2, j2, _, _) => [(12, .int .i64 (i2 : Nat)), (13, .int .i64 (j2 : Nat))]) (fun (i2, j2, d2, F2) w' => partLoop lt a i2 j2 d2 = partLoop lt a (i + 1) (j - 1) (swp d0 i j) ∧ a + 1 ≤ i2 ∧ i2 ≤ b0 ∧ a ≤ j2 ∧ j2 ≤ b0 - 1 ∧ auA b m c0 d2 F2 ∧ Sat K w' (F2 :: Rs)) (fun (i2, j2, _) => j2 + 1 - i2) ((i + 1, j - 1, _, F10)) ⟨rfl, rfl, rfl, rfl, rfl, trivial⟩ ⟨rfl, by omega, by omega, by omega, by omega, r10, hs⟩ ?_
 rintro ⟨i2, j2, d2, F2⟩ w6 ⟨he, hai2, hi2b, haj2, hj2b, r2, hs⟩
 refine C.keep [(0, _), (1, _), (4, _), (12, _), (13, _)] ⟨rfl, rfl, rfl, rfl, rfl, trivial⟩ (C.block (C.seq (C.block ?_)))
 refine C.loop  [(0, _), (1, _), (4, _), (13, _)] (fun i3 => [(12, .int .i64 (i3 : Nat))]) (fun i3 w' => scanUp (fun x => lt x d2[a]!) d2 j2 i3 = scanUp (fun x => lt x d2[a]!) d2 j2 i2 ∧ i2 ≤ i3 ∧ i3 ≤ b0 ∧ Sat K w' (F2 :: Rs)) (fun i3 => b0 - i3) (i2) ⟨rfl, rfl, rfl, rfl, rfl, trivial⟩ ⟨rfl, by omega, by omega, hs⟩ ?_
 rintro i3 w7 ⟨hi3, hi23, hi3b, hs⟩
 refine C.keep [(0, _), (1, _), (4, _), (12, _), (13, _)] ⟨rfl, rfl, rfl, rfl, rfl, trivial⟩ (C.seq (C.seq ?_))
 refine C.cut [(0, _), (1, _), (4, _), (12, _), (13, _)] (fun (_ : Unit) => [(120, .bool (decide (((i3 : Nat) : Int) ≤ ((j2 : Nat) : Int)) && lt d2[i3]! d2[a]!))]) (fun _ w' => Sat K w' (F2 :: Rs)) ⟨rfl, rfl, rfl, rfl, rfl, trivial⟩ ?_ ?_
 refine C.drawn (SatS hs) ([8, 12], [0, 1, 2, 3, 4, 5, 6, 7, 9, 10, 11, 14, 15]) (by kernel_rfl) ?_
 have hs := hs.drew
 refine D.evP 0 rfl (by kernel_rfl) rfl (fun _ => hs.to) (fun _ => E.move rfl) (D.evP 1 rfl (by kernel_rfl) rfl (fun _ => hs.to) (fun _ => E.move rfl) (D.evP 2 rfl (by kernel_rfl) rfl (fun _ => hs.to) (fun _ => E.leq rfl rfl) (D.evP 3 rfl (by kernel_rfl) rfl (fun _ => hs.to) (fun _ => E.move rfl) ?_)))
 refine D.split 108 rfl (fun h108 => ?_) (fun h108 => ?_)
 have h108' := of_decide_eq_true h108
 have A1 := r2.el (K := K) (Hs := F2 :: Rs) (i := i3) (by omega)
 have A2 := r2.el (K := K) (Hs := F2 :: Rs) (i := a) (by omega)
 refine D.evPG 4 rfl (by kernel_rfl) rfl rfl rfl (fun _ => hs.to) (fun _ => E.move rfl) (D.evPG 5 rfl (by kernel_rfl) rfl rfl rfl (fun _ => hs.to) (fun _ => E.move rfl) (D.evPG 6 rfl (by kernel_rfl) rfl rfl rfl (fun _ => hs.to) (fun _ => E.move rfl) ?_))
 refine D.evPG 7 rfl (by kernel_rfl) rfl rfl rfl (fun _ => hs.to) (fun _ => E.indexAddr rfl rfl Tryz.underlying58 Tryz.sz54 rfl (by first | omega | decide)) ?_
 refine D.evPG 9 rfl (by kernel_rfl) rfl rfl rfl (fun _ => hs.to) (fun _ => E.move rfl) (D.evPG 10 rfl (by kernel_rfl) rfl rfl rfl (fun _ => hs.to) (fun _ => E.move rfl) ?_)
 refine D.evPG 11 rfl (by kernel_rfl) rfl rfl rfl (fun _ => hs.to) (fun _ => E.indexAddr rfl rfl Tryz.underlying58 Tryz.sz54 rfl (by first | omega | decide)) ?_
 refine D.evG 8 rfl (by kernel_rfl) rfl rfl rfl hs.to (fun _ hS => E.loadRowC rfl Tryz.underlying54 rfl Tryz.sz54 ⟨A1 _ hS, Enc.len _⟩) (D.evG 12 rfl (by kernel_rfl) rfl rfl rfl hs.to (fun _ hS => E.loadRowC rfl Tryz.underlying54 rfl Tryz.sz54 ⟨A2 _ hS, Enc.len _⟩) (D.act 13 rfl (by kernel_rfl) (R.gyes rfl rfl ?_)))
 refine R.callV hf.1 rfl rfl rfl (hf.2 _ _ _ _ inferInstance hs) ?_
 rintro _ w13 ⟨cc13, rfl, hcc13, hs⟩
 refine D.backT (by kernel_rfl) ?_
 refine D.evPG 14 rfl (by kernel_rfl) rfl rfl rfl (np (by kernel_rfl)) (fun _ => (E.lss rfl rfl).isB (c := lt d2[i3]! d2[a]!) hcc13) ?_
 refine D.evP 15 rfl (by kernel_rfl) rfl (np (by kernel_rfl)) (fun _ => E.pickT rfl rfl) (D.done rfl (by kernel_rfl) (X.keep [(0, _), (1, _), (4, _), (12, _), (13, _), (120, _)] ⟨rfl, rfl, rfl, rfl, rfl, rfl, trivial⟩ ?_))
 refine X.cut (()) ⟨lkV rfl ?_, rfl, rfl, rfl, rfl, rfl, trivial⟩ ?_
 · first | exact gT h108 | exact gF h108
 exact hs
 refine D.skipP 4 rfl (by kernel_rfl) rfl rfl rfl (fun _ => hs.to) (D.skipP 5 rfl (by kernel_rfl) rfl rfl rfl (fun _ => hs.to) (D.skipP 6 rfl (by kernel_rfl) rfl rfl rfl (fun _ => hs.to) (D.skipP 7 rfl (by kernel_rfl) rfl rfl rfl (fun _ => hs.to) (D.skipP 9 rfl (by kernel_rfl) rfl rfl rfl (fun _ => hs.to) (D.skipP 10 rfl (by kernel_rfl) rfl rfl rfl (fun _ => hs.to) (D.skipP 11 rfl (by kernel_rfl) rfl rfl rfl (fun _ => hs.to) (D.skip 8 rfl (by kernel_rfl) rfl rfl rfl hs.to (D.skip 12 rfl (by kernel_rfl) rfl rfl rfl hs.to ?_))))))))
 refine D.act 13 rfl (by kernel_rfl) (R.gskip rfl rfl rfl (D.backT (by kernel_rfl) (D.skipP 14 rfl (by kernel_rfl) rfl rfl rfl (np (by kernel_rfl)) (D.evP 15 rfl (by kernel_rfl) rfl (np (by kernel_rfl)) (fun _ => E.pickF rfl rfl) (D.done rfl (by kernel_rfl) (X.keep [(0, _), (1, _), (4, _), (12, _), (13, _), (120, _)] ⟨rfl, rfl, rfl, rfl, rfl, rfl, trivial⟩ ?_))))))
 refine X.cut (()) ⟨lkV rfl ?_, rfl, rfl, rfl, rfl, rfl, trivial⟩ ?_
 · first | exact gT h108 | exact gF h108
 exact hs
 rintro _ w13 hs
 refine X.keep [(0, _), (1, _), (4, _), (12, _), (13, _), (120, _)] ⟨rfl, rfl, rfl, rfl, rfl, rfl, trivial⟩ (X.next ?_)
 refine C.cbool rfl (fun h120 => ?_) (fun h120 => ?_)
 have hT := and_T h120
 refine C.skip (X.next (C.block (C.region (R.ev rfl (E.move rfl) ?_))))
 refine R.ev rfl ((E.add rfl rfl (by omega) (by omega)).isI (c := ((i3 + 1 : Nat) : Int)) (by omega)) ?_
 refine R.ev rfl (E.assign rfl) (R.done (X.keep [(0, _), (1, _), (4, _), (12, _), (13, _)] ⟨rfl, rfl, rfl, rfl, rfl, trivial⟩ (X.blockNormal ?_)))
 exact X.again (i3 + 1) ⟨rfl, rfl, rfl, rfl, rfl, trivial⟩ ⟨by rw [← hi3, scanUp_go (p := fun x => lt x d2[a]!) (by omega) hT.2], by omega, by omega, hs⟩ (by omega)
 have hF := and_F h120
 rw [scanUp_stop (p := fun x => lt x d2[a]!) (fun hh => hF ⟨by omega, hh.2⟩)] at hi3
 refine C.exit (X.thenExit (X.loopExit (X.blockExit (X.next (C.seq (C.block ?_))))))
 refine C.loop  [(0, _), (1, _), (4, _), (12, _)] (fun j3 => [(13, .int .i64 (j3 : Nat))]) (fun j3 w' => scanDown (fun x => !lt x d2[a]!) d2 i3 j3 = scanDown (fun x => !lt x d2[a]!) d2 i3 j2 ∧ a ≤ j3 ∧ j3 ≤ j2 ∧ Sat K w' (F2 :: Rs)) (fun j3 => j3) (j2) ⟨rfl, rfl, rfl, rfl, rfl, trivial⟩ ⟨rfl, by omega, by omega, hs⟩ ?_
 rintro j3 w8 ⟨hj3, haj3, hj32, hs⟩
 refine C.keep [(0, _), (1, _), (4, _), (12, _), (13, _)] ⟨rfl, rfl, rfl, rfl, rfl, trivial⟩ (C.seq (C.seq ?_))
 refine C.cut [(0, _), (1, _), (4, _), (12, _), (13, _)] (fun (_ : Unit) => [(139, .bool (decide (((i3 : Nat) : Int) ≤ ((j3 : Nat) : Int)) && !lt d2[j3]! d2[a]!))]) (fun _ w' => Sat K w' (F2 :: Rs)) ⟨rfl, rfl, rfl, rfl, rfl, trivial⟩ ?_ ?_
 refine C.drawn (SatS hs) ([8, 12], [0, 1, 2, 3, 4, 5, 6, 7, 9, 10, 11, 14, 15, 16]) (by kernel_rfl) ?_
 have hs := hs.drew
 refine D.evP 0 rfl (by kernel_rfl) rfl (fun _ => hs.to) (fun _ => E.move rfl) (D.evP 1 rfl (by kernel_rfl) rfl (fun _ => hs.to) (fun _ => E.move rfl) (D.evP 2 rfl (by kernel_rfl) rfl (fun _ => hs.to) (fun _ => E.leq rfl rfl) (D.evP 3 rfl (by kernel_rfl) rfl (fun _ => hs.to) (fun _ => E.move rfl) ?_)))
 refine D.split 126 rfl (fun h126 => ?_) (fun h126 => ?_)
 have h126' := of_decide_eq_true h126
 have A1 := r2.el (K := K) (Hs := F2 :: Rs) (i := j3) (by omega)
 have A2 := r2.el (K := K) (Hs := F2 :: Rs) (i := a) (by omega)
 refine D.evPG 4 rfl (by kernel_rfl) rfl rfl rfl (fun _ => hs.to) (fun _ => E.move rfl) (D.evPG 5 rfl (by kernel_rfl) rfl rfl rfl (fun _ => hs.to) (fun _ => E.move rfl) (D.evPG 6 rfl (by kernel_rfl) rfl rfl rfl (fun _ => hs.to) (fun _ => E.move rfl) ?_))
 refine D.evPG 7 rfl (by kernel_rfl) rfl rfl rfl (fun _ => hs.to) (fun _ => E.indexAddr rfl rfl Tryz.underlying58 Tryz.sz54 rfl (by first | omega | decide)) ?_
 refine D.evPG 9 rfl (by kernel_rfl) rfl rfl rfl (fun _ => hs.to) (fun _ => E.move rfl) (D.evPG 10 rfl (by kernel_rfl) rfl rfl rfl (fun _ => hs.to) (fun _ => E.move rfl) ?_)
 refine D.evPG 11 rfl (by kernel_rfl) rfl rfl rfl (fun _ => hs.to) (fun _ => E.indexAddr rfl rfl Tryz.underlying58 Tryz.sz54 rfl (by first | omega | decide)) ?_
 refine D.evG 8 rfl (by kernel_rfl) rfl rfl rfl hs.to (fun _ hS => E.loadRowC rfl Tryz.underlying54 rfl Tryz.sz54 ⟨A1 _ hS, Enc.len _⟩) (D.evG 12 rfl (by kernel_rfl) rfl rfl rfl hs.to (fun _ hS => E.loadRowC rfl Tryz.underlying54 rfl Tryz.sz54 ⟨A2 _ hS, Enc.len _⟩) (D.act 13 rfl (by kernel_rfl) (R.gyes rfl rfl ?_)))
 refine R.callV hf.1 rfl rfl rfl (hf.2 _ _ _ _ inferInstance hs) ?_
 rintro _ w15 ⟨cc15, rfl, hcc15, hs⟩
 refine D.backT (by kernel_rfl) ?_
 refine D.evPG 14 rfl (by kernel_rfl) rfl rfl rfl (np (by kernel_rfl)) (fun _ => (E.lss rfl rfl).isB (c := lt d2[j3]! d2[a]!) hcc15) ?_
 refine D.evPG 15 rfl (by kernel_rfl) rfl rfl rfl (np (by kernel_rfl)) (fun _ => (E.not rfl).isB (c := !(lt d2[j3]! d2[a]!)) rfl) ?_
 refine D.evP 16 rfl (by kernel_rfl) rfl (np (by kernel_rfl)) (fun _ => E.pickT rfl rfl) (D.done rfl (by kernel_rfl) (X.keep [(0, _), (1, _), (4, _), (12, _), (13, _), (139, _)] ⟨rfl, rfl, rfl, rfl, rfl, rfl, trivial⟩ ?_))
 refine X.cut (()) ⟨lkV rfl ?_, rfl, rfl, rfl, rfl, rfl, trivial⟩ ?_
 · first | exact gT h126 | exact gF h126
 exact hs
 refine D.skipP 4 rfl (by kernel_rfl) rfl rfl rfl (fun _ => hs.to) (D.skipP 5 rfl (by kernel_rfl) rfl rfl rfl (fun _ => hs.to) (D.skipP 6 rfl (by kernel_rfl) rfl rfl rfl (fun _ => hs.to) (D.skipP 7 rfl (by kernel_rfl) rfl rfl rfl (fun _ => hs.to) (D.skipP 9 rfl (by kernel_rfl) rfl rfl rfl (fun _ => hs.to) (D.skipP 10 rfl (by kernel_rfl) rfl rfl rfl (fun _ => hs.to) (D.skipP 11 rfl (by kernel_rfl) rfl rfl rfl (fun _ => hs.to) (D.skip 8 rfl (by kernel_rfl) rfl rfl rfl hs.to (D.skip 12 rfl (by kernel_rfl) rfl rfl rfl hs.to ?_))))))))
 refine D.act 13 rfl (by kernel_rfl) (R.gskip rfl rfl rfl (D.backT (by kernel_rfl) (D.skipP 14 rfl (by kernel_rfl) rfl rfl rfl (np (by kernel_rfl)) (D.skipP 15 rfl (by kernel_rfl) rfl rfl rfl (np (by kernel_rfl)) (D.evP 16 rfl (by kernel_rfl) rfl (np (by kernel_rfl)) (fun _ => E.pickF rfl rfl) (D.done rfl (by kernel_rfl) (X.keep [(0, _), (1, _), (4, _), (12, _), (13, _), (139, _)] ⟨rfl, rfl, rfl, rfl, rfl, rfl, trivial⟩ ?_)))))))
 refine X.cut (()) ⟨lkV rfl ?_, rfl, rfl, rfl, rfl, rfl, trivial⟩ ?_
 · first | exact gT h126 | exact gF h126
 exact hs
 rintro _ w15 hs
 refine X.keep [(0, _), (1, _), (4, _), (12, _), (13, _), (139, _)] ⟨rfl, rfl, rfl, rfl, rfl, rfl, trivial⟩ (X.next ?_)
 refine C.cbool rfl (fun h139 => ?_) (fun h139 => ?_)
 have hT := and_T h139
 refine C.skip (X.next (C.block (C.region (R.ev rfl (E.move rfl) ?_))))
 refine R.ev rfl ((E.sub rfl rfl (by omega) (by omega)).isI (c := ((j3 - 1 : Nat) : Int)) (by omega)) ?_
 refine R.ev rfl (E.assign rfl) (R.done (X.keep [(0, _), (1, _), (4, _), (12, _), (13, _)] ⟨rfl, rfl, rfl, rfl, rfl, trivial⟩ (X.blockNormal ?_)))
 exact X.again (j3 - 1) ⟨rfl, rfl, rfl, rfl, rfl, trivial⟩ ⟨by rw [← hj3, scanDown_go (p := fun x => !lt x d2[a]!) (by omega) (by omega) hT.2], by omega, by omega, hs⟩ (by omega)
 have hF := and_F h139
 rw [scanDown_stop (p := fun x => !lt x d2[a]!) (fun hh => hF ⟨by omega, hh.2⟩)] at hj3
 refine C.exit (X.thenExit (X.loopExit (X.blockExit (X.next (C.seq (C.seq (C.region (R.ev rfl (E.move rfl) ?_))))))))
 refine R.ev rfl (E.move rfl) (R.ev rfl (E.gtr rfl rfl) (R.done (X.keep [(0, _), (1, _), (4, _), (12, _), (13, _), (144, _)] ⟨rfl, rfl, rfl, rfl, rfl, rfl, trivial⟩ (X.next ?_))))
 refine C.cdec rfl (fun h144 => ?_) (fun h144 => ?_)
 refine C.exit (X.thenExit (X.blockOther rfl (X.loopExit (X.blockExit (X.next (C.seq ?_))))))
 refine C.drawn (SatS hs) ([7, 11], [0, 1, 2, 3, 4, 5, 6, 8, 9, 10, 12, 14]) (by kernel_rfl) ?_
 have hs := hs.drew
 rw [partLoop_stop hi3.symm hj3.symm (by omega)] at he
 have A1 := r2.el (K := K) (Hs := F2 :: Rs) (i := j3) (by omega)
 have A2 := r2.el (K := K) (Hs := F2 :: Rs) (i := a) (by omega)
 refine D.evP 0 rfl (by kernel_rfl) rfl (fun _ => hs.to) (fun _ => E.move rfl) (D.evP 1 rfl (by kernel_rfl) rfl (fun _ => hs.to) (fun _ => E.move rfl) (D.evP 2 rfl (by kernel_rfl) rfl (fun _ => hs.to) (fun _ => E.move rfl) (D.evP 3 rfl (by kernel_rfl) rfl (fun _ => hs.to) (fun _ => E.move rfl) (D.evP 4 rfl (by kernel_rfl) rfl (fun _ => hs.to) (fun _ => E.move rfl) (D.evP 5 rfl (by kernel_rfl) rfl (fun _ => hs.to) (fun _ => E.move rfl) ?_)))))
 refine D.evP 6 rfl (by kernel_rfl) rfl (fun _ => hs.to) (fun _ => E.indexAddr rfl rfl Tryz.underlying58 Tryz.sz54 rfl (by first | omega | decide)) ?_
 refine D.evP 8 rfl (by kernel_rfl) rfl (fun _ => hs.to) (fun _ => E.move rfl) (D.evP 9 rfl (by kernel_rfl) rfl (fun _ => hs.to) (fun _ => E.move rfl) ?_)
 refine D.evP 10 rfl (by kernel_rfl) rfl (fun _ => hs.to) (fun _ => E.indexAddr rfl rfl Tryz.underlying58 Tryz.sz54 rfl (by first | omega | decide)) ?_
 refine D.ev 7 rfl (by kernel_rfl) rfl hs.to (fun _ hS => E.loadRowC rfl Tryz.underlying54 rfl Tryz.sz54 ⟨A2 _ hS, Enc.len _⟩) (D.ev 11 rfl (by kernel_rfl) rfl hs.to (fun _ hS => E.loadRowC rfl Tryz.underlying54 rfl Tryz.sz54 ⟨A1 _ hS, Enc.len _⟩) ?_)
 refine D.evP 12 rfl (by kernel_rfl) rfl (fun _ => hs.to) (fun _ => E.indexAddr rfl rfl Tryz.underlying58 Tryz.sz54 rfl (by first | omega | decide)) ?_
 refine D.act 13 rfl (by kernel_rfl) (R.dset (j3) hs (r2) rfl rfl Tryz.sz54 (by omega) ?_)
 intro w21a F21a r21a hs
 refine D.backT (by kernel_rfl) ?_
 refine D.evP 14 rfl (by kernel_rfl) rfl (np (by kernel_rfl)) (fun _ => E.indexAddr rfl rfl Tryz.underlying58 Tryz.sz54 rfl (by first | omega | decide)) ?_
 refine D.act 15 rfl (by kernel_rfl) (R.dset (a) hs r21a rfl rfl Tryz.sz54 (by omega) ?_)
 intro w21 F21 r21 hs
 refine D.backT (by kernel_rfl) (D.done rfl (by kernel_rfl) (X.keep [(13, _)] ⟨rfl, trivial⟩ (X.next (C.seq (C.region (R.ev rfl (E.move rfl) (R.ev rfl (E.assign rfl) (R.ev rfl (E.assign rfl) ?_))))))))
 refine R.done (X.keep [(10, _), (11, _)] ⟨rfl, rfl, trivial⟩ (X.next (C.ret (X.ret2 rfl rfl rfl ?_))))
 rw [partition_no hd0 hi.symm hj.symm (by omega) he.symm]
 exact ⟨rfl, F21, r21, hs⟩
 refine C.skip (X.next (C.seq ?_))
 refine C.drawn (SatS hs) ([7, 11], [0, 1, 2, 3, 4, 5, 6, 8, 9, 10, 12, 14]) (by kernel_rfl) ?_
 have hs := hs.drew
 have A1 := r2.el (K := K) (Hs := F2 :: Rs) (i := i3) (by omega)
 have A2 := r2.el (K := K) (Hs := F2 :: Rs) (i := j3) (by omega)
 refine D.evP 0 rfl (by kernel_rfl) rfl (fun _ => hs.to) (fun _ => E.move rfl) (D.evP 1 rfl (by kernel_rfl) rfl (fun _ => hs.to) (fun _ => E.move rfl) (D.evP 2 rfl (by kernel_rfl) rfl (fun _ => hs.to) (fun _ => E.move rfl) (D.evP 3 rfl (by kernel_rfl) rfl (fun _ => hs.to) (fun _ => E.move rfl) (D.evP 4 rfl (by kernel_rfl) rfl (fun _ => hs.to) (fun _ => E.move rfl) (D.evP 5 rfl (by kernel_rfl) rfl (fun _ => hs.to) (fun _ => E.move rfl) ?_)))))
 refine D.evP 6 rfl (by kernel_rfl) rfl (fun _ => hs.to) (fun _ => E.indexAddr rfl rfl Tryz.underlying58 Tryz.sz54 rfl (by first | omega | decide)) ?_
 refine D.evP 8 rfl (by kernel_rfl) rfl (fun _ => hs.to) (fun _ => E.move rfl) (D.evP 9 rfl (by kernel_rfl) rfl (fun _ => hs.to) (fun _ => E.move rfl) ?_)
 refine D.evP 10 rfl (by kernel_rfl) rfl (fun _ => hs.to) (fun _ => E.indexAddr rfl rfl Tryz.underlying58 Tryz.sz54 rfl (by first | omega | decide)) ?_
 refine D.ev 7 rfl (by kernel_rfl) rfl hs.to (fun _ hS => E.loadRowC rfl Tryz.underlying54 rfl Tryz.sz54 ⟨A2 _ hS, Enc.len _⟩) (D.ev 11 rfl (by kernel_rfl) rfl hs.to (fun _ hS => E.loadRowC rfl Tryz.underlying54 rfl Tryz.sz54 ⟨A1 _ hS, Enc.len _⟩) ?_)
 refine D.evP 12 rfl (by kernel_rfl) rfl (fun _ => hs.to) (fun _ => E.indexAddr rfl rfl Tryz.underlying58 Tryz.sz54 rfl (by first | omega | decide)) ?_
 refine D.act 13 rfl (by kernel_rfl) (R.dset (i3) hs (r2) rfl rfl Tryz.sz54 (by omega) ?_)
 intro w18a F18a r18a hs
 refine D.backT (by kernel_rfl) ?_
 refine D.evP 14 rfl (by kernel_rfl) rfl (np (by kernel_rfl)) (fun _ => E.indexAddr rfl rfl Tryz.underlying58 Tryz.sz54 rfl (by first | omega | decide)) ?_
 refine D.act 15 rfl (by kernel_rfl) (R.dset (j3) hs r18a rfl rfl Tryz.sz54 (by omega) ?_)
 intro w18 F18 r18 hs
 refine D.backT (by kernel_rfl) (D.done rfl (by kernel_rfl) (X.keep [(0, _), (1, _), (4, _), (12, _), (13, _)] ⟨rfl, rfl, rfl, rfl, rfl, trivial⟩ (X.next (C.seq (C.region (R.ev rfl (E.move rfl) ?_))))))
 refine R.ev rfl ((E.add rfl rfl (by omega) (by omega)).isI (c := ((i3 + 1 : Nat) : Int)) (by omega)) ?_
 refine R.ev rfl (E.assign rfl) (R.done (X.keep [(0, _), (1, _), (4, _), (12, _), (13, _)] ⟨rfl, rfl, rfl, rfl, rfl, trivial⟩ (X.next (C.region (R.ev rfl (E.move rfl) ?_)))))
 refine R.ev rfl ((E.sub rfl rfl (by omega) (by omega)).isI (c := ((j3 - 1 : Nat) : Int)) (by omega)) ?_
 refine R.ev rfl (E.assign rfl) (R.done (X.keep [(0, _), (1, _), (4, _), (12, _), (13, _)] ⟨rfl, rfl, rfl, rfl, rfl, trivial⟩ (X.blockNormal ?_)))
 exact X.again (i3 + 1, j3 - 1, _, F18) ⟨rfl, rfl, rfl, rfl, rfl, trivial⟩ ⟨by rw [← he, partLoop_go hi3.symm hj3.symm (by omega)]; rfl, by omega, by omega, by omega, by omega, r18, hs⟩ (by show _ - _ < _ - _; omega)
theorem aupartEq_any (hf : auCmp K Rs fid fst cps lt) (a b0 pv : Nat) (hs : Sat K w (F :: Rs)) (hr : auA b m c0 d F) (hap : a ≤ pv) (hpb : pv < b0) (hb : b0 ≤ m) (hm : m ≤ 1000000000) :
   Ret Tryz.prog 78 #[.slice (some ⟨b, 0, none⟩) m c0, .int .i64 (a : Nat), .int .i64 (b0 : Nat), .int .i64 (pv : Nat), .func (.func fid) fst.toArray cps.toArray] w fun r w' => r = .int .i64 ((partitionEqual lt d a b0 pv).1 : Nat) ∧ ∃ F', auA b m c0 (partitionEqual lt d a b0 pv).2 F' ∧ Sat K w' (F' :: Rs) := by
 refine Ret.enter (n := 90) (args := [.slice (some ⟨b, 0, none⟩) m c0, .int .i64 (a : Nat), .int .i64 (b0 : Nat), .int .i64 (pv : Nat), .func (.func fid) fst.toArray cps.toArray]) Tryz.func78 rfl rfl ?_
 refine C.keep [(0, _), (1, _), (2, _), (3, _), (4, _)] ⟨rfl, rfl, rfl, rfl, rfl, trivial⟩ (C.seq (C.region (R.ev rfl (E.assign rfl) (R.done (X.keep [(0, _), (1, _), (2, _), (3, _), (4, _)] ⟨rfl, rfl, rfl, rfl, rfl, trivial⟩ (X.next (C.seq ?_)))))))
 refine C.drawn (SatS hs) ([7, 11], [0, 1, 2, 3, 4, 5, 6, 8, 9, 10, 12, 14]) (by kernel_rfl) ?_
 have hs := hs.drew
 have A1 := hr.el (K := K) (Hs := F :: Rs) (i := a) (by omega)
 have A2 := hr.el (K := K) (Hs := F :: Rs) (i := pv) (by omega)
 refine D.evP 0 rfl (by kernel_rfl) rfl (fun _ => hs.to) (fun _ => E.move rfl) (D.evP 1 rfl (by kernel_rfl) rfl (fun _ => hs.to) (fun _ => E.move rfl) (D.evP 2 rfl (by kernel_rfl) rfl (fun _ => hs.to) (fun _ => E.move rfl) (D.evP 3 rfl (by kernel_rfl) rfl (fun _ => hs.to) (fun _ => E.move rfl) (D.evP 4 rfl (by kernel_rfl) rfl (fun _ => hs.to) (fun _ => E.move rfl) (D.evP 5 rfl (by kernel_rfl) rfl (fun _ => hs.to) (fun _ => E.move rfl) ?_)))))
 refine D.evP 6 rfl (by kernel_rfl) rfl (fun _ => hs.to) (fun _ => E.indexAddr rfl rfl Tryz.underlying58 Tryz.sz54 rfl (by first | omega | decide)) ?_
 refine D.evP 8 rfl (by kernel_rfl) rfl (fun _ => hs.to) (fun _ => E.move rfl) (D.evP 9 rfl (by kernel_rfl) rfl (fun _ => hs.to) (fun _ => E.move rfl) ?_)
 refine D.evP 10 rfl (by kernel_rfl) rfl (fun _ => hs.to) (fun _ => E.indexAddr rfl rfl Tryz.underlying58 Tryz.sz54 rfl (by first | omega | decide)) ?_
 refine D.ev 7 rfl (by kernel_rfl) rfl hs.to (fun _ hS => E.loadRowC rfl Tryz.underlying54 rfl Tryz.sz54 ⟨A2 _ hS, Enc.len _⟩) (D.ev 11 rfl (by kernel_rfl) rfl hs.to (fun _ hS => E.loadRowC rfl Tryz.underlying54 rfl Tryz.sz54 ⟨A1 _ hS, Enc.len _⟩) ?_)
 refine D.evP 12 rfl (by kernel_rfl) rfl (fun _ => hs.to) (fun _ => E.indexAddr rfl rfl Tryz.underlying58 Tryz.sz54 rfl (by first | omega | decide)) ?_
 refine D.act 13 rfl (by kernel_rfl) (R.dset (a) hs (hr) rfl rfl Tryz.sz54 (by omega) ?_)
 intro w1a F1a r1a hs
 refine D.backT (by kernel_rfl) ?_
 refine D.evP 14 rfl (by kernel_rfl) rfl (np (by kernel_rfl)) (fun _ => E.indexAddr rfl rfl Tryz.underlying58 Tryz.sz54 rfl (by first | omega | decide)) ?_
 refine D.act 15 rfl (by kernel_rfl) (R.dset (pv) hs r1a rfl rfl Tryz.sz54 (by omega) ?_)
 intro w1 F1 r1 hs
 refine D.backT (by kernel_rfl) (D.done rfl (by kernel_rfl) (X.keep [(0, _), (1, _), (2, _), (4, _)] ⟨rfl, rfl, rfl, rfl, trivial⟩ (X.next (C.seq (C.region (R.ev rfl (E.move rfl) ?_))))))
 refine R.ev rfl ((E.add rfl rfl (by omega) (by omega)).isI (c := ((a + 1 : Nat) : Int)) (by omega)) ?_
 refine R.ev rfl (E.move rfl) ?_
 refine R.ev rfl ((E.sub rfl rfl (by omega) (by omega)).isI (c := ((b0 - 1 : Nat) : Int)) (by omega)) ?_
 refine R.ev rfl (E.assign rfl) (R.ev rfl (E.assign rfl) (R.done (X.keep [(0, _), (1, _), (4, _), (11, _), (12, _)] ⟨rfl, rfl, rfl, rfl, rfl, trivial⟩ (X.next (C.seq (C.block ?_))))))
 refine C.loop (T := Nat × Nat × Array (Vec 16) × Hl) [(0, _), (1, _), (4, _)] (fun (i2, j2, _, _) => [(11, .int .i64 (i2 : Nat)), (12, .int .i64 (j2 : Nat))]) (fun (i2, j2, d2, F2) w' => partEqLoop lt a i2 j2 d2 = partitionEqual lt d a b0 pv ∧ a + 1 ≤ i2 ∧ i2 ≤ b0 ∧ a ≤ j2 ∧ j2 ≤ b0 - 1 ∧ auA b m c0 d2 F2 ∧ Sat K w' (F2 :: Rs)) (fun (i2, j2, _) => j2 + 1 - i2) ((a + 1, b0 - 1, _, F1)) ⟨rfl, rfl, rfl, rfl, rfl, trivial⟩ ⟨rfl, by omega, by omega, by omega, by omega, r1, hs⟩ ?_
 rintro ⟨i2, j2, d2, F2⟩ w6 ⟨he, hai2, hi2b, haj2, hj2b, r2, hs⟩
 refine C.keep [(0, _), (1, _), (4, _), (11, _), (12, _)] ⟨rfl, rfl, rfl, rfl, rfl, trivial⟩ (C.block (C.seq (C.block ?_)))
 refine C.loop  [(0, _), (1, _), (4, _), (12, _)] (fun i3 => [(11, .int .i64 (i3 : Nat))]) (fun i3 w' => scanUp (fun x => !lt d2[a]! x) d2 j2 i3 = scanUp (fun x => !lt d2[a]! x) d2 j2 i2 ∧ i2 ≤ i3 ∧ i3 ≤ b0 ∧ Sat K w' (F2 :: Rs)) (fun i3 => b0 - i3) (i2) ⟨rfl, rfl, rfl, rfl, rfl, trivial⟩ ⟨rfl, by omega, by omega, hs⟩ ?_
 rintro i3 w7 ⟨hi3, hi23, hi3b, hs⟩
 refine C.keep [(0, _), (1, _), (4, _), (11, _), (12, _)] ⟨rfl, rfl, rfl, rfl, rfl, trivial⟩ (C.seq (C.seq ?_))
 refine C.cut [(0, _), (1, _), (4, _), (11, _), (12, _)] (fun (_ : Unit) => [(47, .bool (decide (((i3 : Nat) : Int) ≤ ((j2 : Nat) : Int)) && !lt d2[a]! d2[i3]!))]) (fun _ w' => Sat K w' (F2 :: Rs)) ⟨rfl, rfl, rfl, rfl, rfl, trivial⟩ ?_ ?_
 refine C.drawn (SatS hs) ([8, 12], [0, 1, 2, 3, 4, 5, 6, 7, 9, 10, 11, 14, 15, 16]) (by kernel_rfl) ?_
 have hs := hs.drew
 refine D.evP 0 rfl (by kernel_rfl) rfl (fun _ => hs.to) (fun _ => E.move rfl) (D.evP 1 rfl (by kernel_rfl) rfl (fun _ => hs.to) (fun _ => E.move rfl) (D.evP 2 rfl (by kernel_rfl) rfl (fun _ => hs.to) (fun _ => E.leq rfl rfl) (D.evP 3 rfl (by kernel_rfl) rfl (fun _ => hs.to) (fun _ => E.move rfl) ?_)))
 refine D.split 34 rfl (fun h34 => ?_) (fun h34 => ?_)
 have h34' := of_decide_eq_true h34
 have A1 := r2.el (K := K) (Hs := F2 :: Rs) (i := i3) (by omega)
 have A2 := r2.el (K := K) (Hs := F2 :: Rs) (i := a) (by omega)
 refine D.evPG 4 rfl (by kernel_rfl) rfl rfl rfl (fun _ => hs.to) (fun _ => E.move rfl) (D.evPG 5 rfl (by kernel_rfl) rfl rfl rfl (fun _ => hs.to) (fun _ => E.move rfl) (D.evPG 6 rfl (by kernel_rfl) rfl rfl rfl (fun _ => hs.to) (fun _ => E.move rfl) ?_))
 refine D.evPG 7 rfl (by kernel_rfl) rfl rfl rfl (fun _ => hs.to) (fun _ => E.indexAddr rfl rfl Tryz.underlying58 Tryz.sz54 rfl (by first | omega | decide)) ?_
 refine D.evPG 9 rfl (by kernel_rfl) rfl rfl rfl (fun _ => hs.to) (fun _ => E.move rfl) (D.evPG 10 rfl (by kernel_rfl) rfl rfl rfl (fun _ => hs.to) (fun _ => E.move rfl) ?_)
 refine D.evPG 11 rfl (by kernel_rfl) rfl rfl rfl (fun _ => hs.to) (fun _ => E.indexAddr rfl rfl Tryz.underlying58 Tryz.sz54 rfl (by first | omega | decide)) ?_
 refine D.evG 8 rfl (by kernel_rfl) rfl rfl rfl hs.to (fun _ hS => E.loadRowC rfl Tryz.underlying54 rfl Tryz.sz54 ⟨A2 _ hS, Enc.len _⟩) (D.evG 12 rfl (by kernel_rfl) rfl rfl rfl hs.to (fun _ hS => E.loadRowC rfl Tryz.underlying54 rfl Tryz.sz54 ⟨A1 _ hS, Enc.len _⟩) (D.act 13 rfl (by kernel_rfl) (R.gyes rfl rfl ?_)))
 refine R.callV hf.1 rfl rfl rfl (hf.2 _ _ _ _ inferInstance hs) ?_
 rintro _ w3 ⟨cc3, rfl, hcc3, hs⟩
 refine D.backT (by kernel_rfl) ?_
 refine D.evPG 14 rfl (by kernel_rfl) rfl rfl rfl (np (by kernel_rfl)) (fun _ => (E.lss rfl rfl).isB (c := lt d2[a]! d2[i3]!) hcc3) ?_
 refine D.evPG 15 rfl (by kernel_rfl) rfl rfl rfl (np (by kernel_rfl)) (fun _ => (E.not rfl).isB (c := !(lt d2[a]! d2[i3]!)) rfl) ?_
 refine D.evP 16 rfl (by kernel_rfl) rfl (np (by kernel_rfl)) (fun _ => E.pickT rfl rfl) (D.done rfl (by kernel_rfl) (X.keep [(0, _), (1, _), (4, _), (11, _), (12, _), (47, _)] ⟨rfl, rfl, rfl, rfl, rfl, rfl, trivial⟩ ?_))
 refine X.cut (()) ⟨lkV rfl ?_, rfl, rfl, rfl, rfl, rfl, trivial⟩ ?_
 · first | exact gT h34 | exact gF h34
 exact hs
 refine D.skipP 4 rfl (by kernel_rfl) rfl rfl rfl (fun _ => hs.to) (D.skipP 5 rfl (by kernel_rfl) rfl rfl rfl (fun _ => hs.to) (D.skipP 6 rfl (by kernel_rfl) rfl rfl rfl (fun _ => hs.to) (D.skipP 7 rfl (by kernel_rfl) rfl rfl rfl (fun _ => hs.to) (D.skipP 9 rfl (by kernel_rfl) rfl rfl rfl (fun _ => hs.to) (D.skipP 10 rfl (by kernel_rfl) rfl rfl rfl (fun _ => hs.to) (D.skipP 11 rfl (by kernel_rfl) rfl rfl rfl (fun _ => hs.to) (D.skip 8 rfl (by kernel_rfl) rfl rfl rfl hs.to (D.skip 12 rfl (by kernel_rfl) rfl rfl rfl hs.to ?_))))))))
 refine D.act 13 rfl (by kernel_rfl) (R.gskip rfl rfl rfl (D.backT (by kernel_rfl) (D.skipP 14 rfl (by kernel_rfl) rfl rfl rfl (np (by kernel_rfl)) (D.skipP 15 rfl (by kernel_rfl) rfl rfl rfl (np (by kernel_rfl)) (D.evP 16 rfl (by kernel_rfl) rfl (np (by kernel_rfl)) (fun _ => E.pickF rfl rfl) (D.done rfl (by kernel_rfl) (X.keep [(0, _), (1, _), (4, _), (11, _), (12, _), (47, _)] ⟨rfl, rfl, rfl, rfl, rfl, rfl, trivial⟩ ?_)))))))
 refine X.cut (()) ⟨lkV rfl ?_, rfl, rfl, rfl, rfl, rfl, trivial⟩ ?_
 · first | exact gT h34 | exact gF h34
 exact hs
 rintro _ w13 hs
 refine X.keep [(0, _), (1, _), (4, _), (11, _), (12, _), (47, _)] ⟨rfl, rfl, rfl, rfl, rfl, rfl, trivial⟩ (X.next ?_)
 refine C.cbool rfl (fun h47 => ?_) (fun h47 => ?_)
 have hT := and_T h47
 refine C.skip (X.next (C.block (C.region (R.ev rfl (E.move rfl) ?_))))
 refine R.ev rfl ((E.add rfl rfl (by omega) (by omega)).isI (c := ((i3 + 1 : Nat) : Int)) (by omega)) ?_
 refine R.ev rfl (E.assign rfl) (R.done (X.keep [(0, _), (1, _), (4, _), (11, _), (12, _)] ⟨rfl, rfl, rfl, rfl, rfl, trivial⟩ (X.blockNormal ?_)))
 exact X.again (i3 + 1) ⟨rfl, rfl, rfl, rfl, rfl, trivial⟩ ⟨by rw [← hi3, scanUp_go (p := fun x => !lt d2[a]! x) (by omega) hT.2], by omega, by omega, hs⟩ (by omega)
 have hF := and_F h47
 rw [scanUp_stop (p := fun x => !lt d2[a]! x) (fun hh => hF ⟨by omega, hh.2⟩)] at hi3
 refine C.exit (X.thenExit (X.loopExit (X.blockExit (X.next (C.seq (C.block ?_))))))
 refine C.loop  [(0, _), (1, _), (4, _), (11, _)] (fun j3 => [(12, .int .i64 (j3 : Nat))]) (fun j3 w' => scanDown (fun x => lt d2[a]! x) d2 i3 j3 = scanDown (fun x => lt d2[a]! x) d2 i3 j2 ∧ a ≤ j3 ∧ j3 ≤ j2 ∧ Sat K w' (F2 :: Rs)) (fun j3 => j3) (j2) ⟨rfl, rfl, rfl, rfl, rfl, trivial⟩ ⟨rfl, by omega, by omega, hs⟩ ?_
 rintro j3 w8 ⟨hj3, haj3, hj32, hs⟩
 refine C.keep [(0, _), (1, _), (4, _), (11, _), (12, _)] ⟨rfl, rfl, rfl, rfl, rfl, trivial⟩ (C.seq (C.seq ?_))
 refine C.cut [(0, _), (1, _), (4, _), (11, _), (12, _)] (fun (_ : Unit) => [(65, .bool (decide (((i3 : Nat) : Int) ≤ ((j3 : Nat) : Int)) && lt d2[a]! d2[j3]!))]) (fun _ w' => Sat K w' (F2 :: Rs)) ⟨rfl, rfl, rfl, rfl, rfl, trivial⟩ ?_ ?_
 refine C.drawn (SatS hs) ([8, 12], [0, 1, 2, 3, 4, 5, 6, 7, 9, 10, 11, 14, 15]) (by kernel_rfl) ?_
 have hs := hs.drew
 refine D.evP 0 rfl (by kernel_rfl) rfl (fun _ => hs.to) (fun _ => E.move rfl) (D.evP 1 rfl (by kernel_rfl) rfl (fun _ => hs.to) (fun _ => E.move rfl) (D.evP 2 rfl (by kernel_rfl) rfl (fun _ => hs.to) (fun _ => E.leq rfl rfl) (D.evP 3 rfl (by kernel_rfl) rfl (fun _ => hs.to) (fun _ => E.move rfl) ?_)))
 refine D.split 53 rfl (fun h53 => ?_) (fun h53 => ?_)
 have h53' := of_decide_eq_true h53
 have A1 := r2.el (K := K) (Hs := F2 :: Rs) (i := j3) (by omega)
 have A2 := r2.el (K := K) (Hs := F2 :: Rs) (i := a) (by omega)
 refine D.evPG 4 rfl (by kernel_rfl) rfl rfl rfl (fun _ => hs.to) (fun _ => E.move rfl) (D.evPG 5 rfl (by kernel_rfl) rfl rfl rfl (fun _ => hs.to) (fun _ => E.move rfl) (D.evPG 6 rfl (by kernel_rfl) rfl rfl rfl (fun _ => hs.to) (fun _ => E.move rfl) ?_))
 refine D.evPG 7 rfl (by kernel_rfl) rfl rfl rfl (fun _ => hs.to) (fun _ => E.indexAddr rfl rfl Tryz.underlying58 Tryz.sz54 rfl (by first | omega | decide)) ?_
 refine D.evPG 9 rfl (by kernel_rfl) rfl rfl rfl (fun _ => hs.to) (fun _ => E.move rfl) (D.evPG 10 rfl (by kernel_rfl) rfl rfl rfl (fun _ => hs.to) (fun _ => E.move rfl) ?_)
 refine D.evPG 11 rfl (by kernel_rfl) rfl rfl rfl (fun _ => hs.to) (fun _ => E.indexAddr rfl rfl Tryz.underlying58 Tryz.sz54 rfl (by first | omega | decide)) ?_
 refine D.evG 8 rfl (by kernel_rfl) rfl rfl rfl hs.to (fun _ hS => E.loadRowC rfl Tryz.underlying54 rfl Tryz.sz54 ⟨A2 _ hS, Enc.len _⟩) (D.evG 12 rfl (by kernel_rfl) rfl rfl rfl hs.to (fun _ hS => E.loadRowC rfl Tryz.underlying54 rfl Tryz.sz54 ⟨A1 _ hS, Enc.len _⟩) (D.act 13 rfl (by kernel_rfl) (R.gyes rfl rfl ?_)))
 refine R.callV hf.1 rfl rfl rfl (hf.2 _ _ _ _ inferInstance hs) ?_
 rintro _ w5 ⟨cc5, rfl, hcc5, hs⟩
 refine D.backT (by kernel_rfl) ?_
 refine D.evPG 14 rfl (by kernel_rfl) rfl rfl rfl (np (by kernel_rfl)) (fun _ => (E.lss rfl rfl).isB (c := lt d2[a]! d2[j3]!) hcc5) ?_
 refine D.evP 15 rfl (by kernel_rfl) rfl (np (by kernel_rfl)) (fun _ => E.pickT rfl rfl) (D.done rfl (by kernel_rfl) (X.keep [(0, _), (1, _), (4, _), (11, _), (12, _), (65, _)] ⟨rfl, rfl, rfl, rfl, rfl, rfl, trivial⟩ ?_))
 refine X.cut (()) ⟨lkV rfl ?_, rfl, rfl, rfl, rfl, rfl, trivial⟩ ?_
 · first | exact gT h53 | exact gF h53
 exact hs
 refine D.skipP 4 rfl (by kernel_rfl) rfl rfl rfl (fun _ => hs.to) (D.skipP 5 rfl (by kernel_rfl) rfl rfl rfl (fun _ => hs.to) (D.skipP 6 rfl (by kernel_rfl) rfl rfl rfl (fun _ => hs.to) (D.skipP 7 rfl (by kernel_rfl) rfl rfl rfl (fun _ => hs.to) (D.skipP 9 rfl (by kernel_rfl) rfl rfl rfl (fun _ => hs.to) (D.skipP 10 rfl (by kernel_rfl) rfl rfl rfl (fun _ => hs.to) (D.skipP 11 rfl (by kernel_rfl) rfl rfl rfl (fun _ => hs.to) (D.skip 8 rfl (by kernel_rfl) rfl rfl rfl hs.to (D.skip 12 rfl (by kernel_rfl) rfl rfl rfl hs.to ?_))))))))
 refine D.act 13 rfl (by kernel_rfl) (R.gskip rfl rfl rfl (D.backT (by kernel_rfl) (D.skipP 14 rfl (by kernel_rfl) rfl rfl rfl (np (by kernel_rfl)) (D.evP 15 rfl (by kernel_rfl) rfl (np (by kernel_rfl)) (fun _ => E.pickF rfl rfl) (D.done rfl (by kernel_rfl) (X.keep [(0, _), (1, _), (4, _), (11, _), (12, _), (65, _)] ⟨rfl, rfl, rfl, rfl, rfl, rfl, trivial⟩ ?_))))))
 refine X.cut (()) ⟨lkV rfl ?_, rfl, rfl, rfl, rfl, rfl, trivial⟩ ?_
 · first | exact gT h53 | exact gF h53
 exact hs
 rintro _ w15 hs
 refine X.keep [(0, _), (1, _), (4, _), (11, _), (12, _), (65, _)] ⟨rfl, rfl, rfl, rfl, rfl, rfl, trivial⟩ (X.next ?_)
 refine C.cbool rfl (fun h65 => ?_) (fun h65 => ?_)
 have hT := and_T h65
 refine C.skip (X.next (C.block (C.region (R.ev rfl (E.move rfl) ?_))))
 refine R.ev rfl ((E.sub rfl rfl (by omega) (by omega)).isI (c := ((j3 - 1 : Nat) : Int)) (by omega)) ?_
 refine R.ev rfl (E.assign rfl) (R.done (X.keep [(0, _), (1, _), (4, _), (11, _), (12, _)] ⟨rfl, rfl, rfl, rfl, rfl, trivial⟩ (X.blockNormal ?_)))
 exact X.again (j3 - 1) ⟨rfl, rfl, rfl, rfl, rfl, trivial⟩ ⟨by rw [← hj3, scanDown_go (p := fun x => lt d2[a]! x) (by omega) (by omega) hT.2], by omega, by omega, hs⟩ (by omega)
 have hF := and_F h65
 rw [scanDown_stop (p := fun x => lt d2[a]! x) (fun hh => hF ⟨by omega, hh.2⟩)] at hj3
 refine C.exit (X.thenExit (X.loopExit (X.blockExit (X.next (C.seq (C.seq (C.region (R.ev rfl (E.move rfl) ?_))))))))
 refine R.ev rfl (E.move rfl) (R.ev rfl (E.gtr rfl rfl) (R.done (X.keep [(0, _), (1, _), (4, _), (11, _), (12, _), (70, _)] ⟨rfl, rfl, rfl, rfl, rfl, rfl, trivial⟩ (X.next ?_))))
 refine C.cdec rfl (fun h70 => ?_) (fun h70 => ?_)
 refine C.exit (X.thenExit (X.blockOther rfl (X.loopExit (X.blockExit (X.next (C.seq (C.region (R.ev rfl (E.move rfl) ?_))))))))
 refine R.ev rfl (E.assign rfl) (R.done (X.keep [(10, _)] ⟨rfl, trivial⟩ (X.next (C.ret (X.ret1 rfl rfl ?_)))))
 rw [partEq_stop hi3.symm hj3.symm (by omega)] at he
 rw [← he]
 exact ⟨rfl, F2, r2, hs⟩
 refine C.skip (X.next (C.seq ?_))
 refine C.drawn (SatS hs) ([7, 11], [0, 1, 2, 3, 4, 5, 6, 8, 9, 10, 12, 14]) (by kernel_rfl) ?_
 have hs := hs.drew
 have A1 := r2.el (K := K) (Hs := F2 :: Rs) (i := i3) (by omega)
 have A2 := r2.el (K := K) (Hs := F2 :: Rs) (i := j3) (by omega)
 refine D.evP 0 rfl (by kernel_rfl) rfl (fun _ => hs.to) (fun _ => E.move rfl) (D.evP 1 rfl (by kernel_rfl) rfl (fun _ => hs.to) (fun _ => E.move rfl) (D.evP 2 rfl (by kernel_rfl) rfl (fun _ => hs.to) (fun _ => E.move rfl) (D.evP 3 rfl (by kernel_rfl) rfl (fun _ => hs.to) (fun _ => E.move rfl) (D.evP 4 rfl (by kernel_rfl) rfl (fun _ => hs.to) (fun _ => E.move rfl) (D.evP 5 rfl (by kernel_rfl) rfl (fun _ => hs.to) (fun _ => E.move rfl) ?_)))))
 refine D.evP 6 rfl (by kernel_rfl) rfl (fun _ => hs.to) (fun _ => E.indexAddr rfl rfl Tryz.underlying58 Tryz.sz54 rfl (by first | omega | decide)) ?_
 refine D.evP 8 rfl (by kernel_rfl) rfl (fun _ => hs.to) (fun _ => E.move rfl) (D.evP 9 rfl (by kernel_rfl) rfl (fun _ => hs.to) (fun _ => E.move rfl) ?_)
 refine D.evP 10 rfl (by kernel_rfl) rfl (fun _ => hs.to) (fun _ => E.indexAddr rfl rfl Tryz.underlying58 Tryz.sz54 rfl (by first | omega | decide)) ?_
 refine D.ev 7 rfl (by kernel_rfl) rfl hs.to (fun _ hS => E.loadRowC rfl Tryz.underlying54 rfl Tryz.sz54 ⟨A2 _ hS, Enc.len _⟩) (D.ev 11 rfl (by kernel_rfl) rfl hs.to (fun _ hS => E.loadRowC rfl Tryz.underlying54 rfl Tryz.sz54 ⟨A1 _ hS, Enc.len _⟩) ?_)
 refine D.evP 12 rfl (by kernel_rfl) rfl (fun _ => hs.to) (fun _ => E.indexAddr rfl rfl Tryz.underlying58 Tryz.sz54 rfl (by first | omega | decide)) ?_
 refine D.act 13 rfl (by kernel_rfl) (R.dset (i3) hs (r2) rfl rfl Tryz.sz54 (by omega) ?_)
 intro w8a F8a r8a hs
 refine D.backT (by kernel_rfl) ?_
 refine D.evP 14 rfl (by kernel_rfl) rfl (np (by kernel_rfl)) (fun _ => E.indexAddr rfl rfl Tryz.underlying58 Tryz.sz54 rfl (by first | omega | decide)) ?_
 refine D.act 15 rfl (by kernel_rfl) (R.dset (j3) hs r8a rfl rfl Tryz.sz54 (by omega) ?_)
 intro w8 F8 r8 hs
 refine D.backT (by kernel_rfl) (D.done rfl (by kernel_rfl) (X.keep [(0, _), (1, _), (4, _), (11, _), (12, _)] ⟨rfl, rfl, rfl, rfl, rfl, trivial⟩ (X.next (C.seq (C.region (R.ev rfl (E.move rfl) ?_))))))
 refine R.ev rfl ((E.add rfl rfl (by omega) (by omega)).isI (c := ((i3 + 1 : Nat) : Int)) (by omega)) ?_
 refine R.ev rfl (E.assign rfl) (R.done (X.keep [(0, _), (1, _), (4, _), (11, _), (12, _)] ⟨rfl, rfl, rfl, rfl, rfl, trivial⟩ (X.next (C.region (R.ev rfl (E.move rfl) ?_)))))
 refine R.ev rfl ((E.sub rfl rfl (by omega) (by omega)).isI (c := ((j3 - 1 : Nat) : Int)) (by omega)) ?_
 refine R.ev rfl (E.assign rfl) (R.done (X.keep [(0, _), (1, _), (4, _), (11, _), (12, _)] ⟨rfl, rfl, rfl, rfl, rfl, trivial⟩ (X.blockNormal ?_)))
 exact X.again (i3 + 1, j3 - 1, _, F8) ⟨rfl, rfl, rfl, rfl, rfl, trivial⟩ ⟨by rw [← he, partEq_go hi3.symm hj3.symm (by omega)]; rfl, by omega, by omega, by omega, by omega, r8, hs⟩ (by show _ - _ < _ - _; omega)
end
section
variable {K : Kn} {Rs : List Hl} {F : Hl} {w : World} {b m c0 : Nat} {d : Array (Vec 16)} {lt : (Vec 16) → (Vec 16) → Bool} {fid : FuncId} {fst cps : List Value}
open Go.Sort
theorem aupins_any (hf : auCmp K Rs fid fst cps lt) (a b0 : Nat) (hs : Sat K w (F :: Rs)) (hr : auA b m c0 d F) (hab : a < b0) (hb : b0 ≤ m) (hm : m ≤ 1000000000) :
   Ret Tryz.prog 77 #[.slice (some ⟨b, 0, none⟩) m c0, .int .i64 (a : Nat), .int .i64 (b0 : Nat), .func (.func fid) fst.toArray cps.toArray] w fun r w' => r = .bool (partialInsertionSort lt d a b0).2 ∧ ∃ F', auA b m c0 (partialInsertionSort lt d a b0).1 F' ∧ Sat K w' (F' :: Rs) := by
 refine Ret.enter (n := 141) (args := [.slice (some ⟨b, 0, none⟩) m c0, .int .i64 (a : Nat), .int .i64 (b0 : Nat), .func (.func fid) fst.toArray cps.toArray]) Tryz.func77 rfl rfl ?_
 refine C.keep [(0, _), (1, _), (2, _), (3, _)] ⟨rfl, rfl, rfl, rfl, trivial⟩ (C.seq (C.region (R.ev rfl (E.assign rfl) (R.done (X.keep [(0, _), (1, _), (2, _), (3, _)] ⟨rfl, rfl, rfl, rfl, trivial⟩ (X.next (C.seq (C.region ?_))))))))
 refine R.ev rfl (E.move rfl) ?_
 refine R.ev rfl ((E.add rfl rfl (by omega) (by omega)).isI (c := ((a + 1 : Nat) : Int)) (by omega)) ?_
 refine R.ev rfl (E.assign rfl) (R.done (X.keep [(0, _), (1, _), (2, _), (3, _), (9, _)] ⟨rfl, rfl, rfl, rfl, rfl, trivial⟩ (X.next (C.seq (C.seq (C.region ?_))))))
 refine R.ev rfl ((E.assign rfl).as (u := .int .i64 ((0 : Nat) : Int)) rfl) ?_
 refine R.done (X.keep [(0, _), (1, _), (2, _), (3, _), (9, _), (10, _)] ⟨rfl, rfl, rfl, rfl, rfl, rfl, trivial⟩ (X.next (C.block ?_)))
 refine C.loop (T := Nat × Nat × Array (Vec 16) × Hl) [(0, _), (1, _), (2, _), (3, _)] (fun (q, i, _, _) => [(9, .int .i64 (i : Nat)), (10, .int .i64 (q : Nat))]) (fun (q, i, d1, F1) w' => partialIns lt a b0 (5 - q) i d1 = partialInsertionSort lt d a b0 ∧ q ≤ 5 ∧ a + 1 ≤ i ∧ i ≤ b0 ∧ auA b m c0 d1 F1 ∧ Sat K w' (F1 :: Rs)) (fun (q, _) => 5 - q) ((0, a + 1, d, F)) ⟨rfl, rfl, rfl, rfl, rfl, rfl, trivial⟩ ⟨rfl, by omega, by omega, by omega, hr, hs⟩ ?_
 rintro ⟨q, i, d1, F1⟩ w1 ⟨he, hq, hai, hib, r1, hs⟩
 refine C.keep [(0, _), (1, _), (2, _), (3, _), (9, _), (10, _)] ⟨rfl, rfl, rfl, rfl, rfl, rfl, trivial⟩ (C.seq (C.seq (C.region (R.ev rfl (E.move rfl) (R.ev rfl (E.lss rfl rfl) (R.done (X.keep [(0, _), (1, _), (2, _), (3, _), (9, _), (10, _), (16, _)] ⟨rfl, rfl, rfl, rfl, rfl, rfl, rfl, trivial⟩ (X.next ?_))))))))
 refine C.cdec rfl (fun h16 => ?_) (fun h16 => ?_)
 rw [show 5 - q = (5 - (q + 1)) + 1 by omega] at he
 refine C.skip (X.next (C.seq (C.block (C.seq (C.block ?_)))))
 refine C.loop  [(0, _), (1, _), (2, _), (3, _), (10, _)] (fun i2 => [(9, .int .i64 (i2 : Nat))]) (fun i2 w' => scanSorted lt d1 b0 i2 = scanSorted lt d1 b0 i ∧ i ≤ i2 ∧ i2 ≤ b0 ∧ Sat K w' (F1 :: Rs)) (fun i2 => b0 - i2) (i) ⟨rfl, rfl, rfl, rfl, rfl, rfl, trivial⟩ ⟨rfl, by omega, by omega, hs⟩ ?_
 rintro i2 w2 ⟨hi2, hii, hi2b, hs⟩
 refine C.keep [(0, _), (1, _), (2, _), (3, _), (9, _), (10, _)] ⟨rfl, rfl, rfl, rfl, rfl, rfl, trivial⟩ (C.seq (C.seq ?_))
 refine C.cut [(0, _), (1, _), (2, _), (3, _), (9, _), (10, _)] (fun (_ : Unit) => [(36, .bool (decide (((i2 : Nat) : Int) < ((b0 : Nat) : Int)) && !lt d1[i2]! d1[i2 - 1]!))]) (fun _ w' => Sat K w' (F1 :: Rs)) ⟨rfl, rfl, rfl, rfl, rfl, rfl, trivial⟩ ?_ ?_
 refine C.drawn (SatS hs) ([8, 13], [0, 1, 2, 3, 4, 5, 6, 7, 9, 10, 11, 12, 15, 16, 17]) (by kernel_rfl) ?_
 have hs := hs.drew
 refine D.evP 0 rfl (by kernel_rfl) rfl (fun _ => hs.to) (fun _ => E.move rfl) (D.evP 1 rfl (by kernel_rfl) rfl (fun _ => hs.to) (fun _ => E.move rfl) (D.evP 2 rfl (by kernel_rfl) rfl (fun _ => hs.to) (fun _ => E.lss rfl rfl) (D.evP 3 rfl (by kernel_rfl) rfl (fun _ => hs.to) (fun _ => E.move rfl) ?_)))
 refine D.split 22 rfl (fun h22 => ?_) (fun h22 => ?_)
 have h22' := of_decide_eq_true h22
 have A1 := r1.el (K := K) (Hs := F1 :: Rs) (i := i2) (by omega)
 have A2 := r1.el (K := K) (Hs := F1 :: Rs) (i := i2 - 1) (by omega)
 refine D.evPG 4 rfl (by kernel_rfl) rfl rfl rfl (fun _ => hs.to) (fun _ => E.move rfl) (D.evPG 5 rfl (by kernel_rfl) rfl rfl rfl (fun _ => hs.to) (fun _ => E.move rfl) (D.evPG 6 rfl (by kernel_rfl) rfl rfl rfl (fun _ => hs.to) (fun _ => E.move rfl) ?_))
 refine D.evPG 7 rfl (by kernel_rfl) rfl rfl rfl (fun _ => hs.to) (fun _ => E.indexAddr rfl rfl Tryz.underlying58 Tryz.sz54 rfl (by first | omega | decide)) ?_
 refine D.evPG 9 rfl (by kernel_rfl) rfl rfl rfl (fun _ => hs.to) (fun _ => E.move rfl) (D.evPG 10 rfl (by kernel_rfl) rfl rfl rfl (fun _ => hs.to) (fun _ => E.move rfl) ?_)
 refine D.evPG 11 rfl (by kernel_rfl) rfl rfl rfl (fun _ => hs.to) (fun _ => (E.sub rfl rfl (by omega) (by omega)).isI (c := ((i2 - 1 : Nat) : Int)) (by omega)) ?_
 refine D.evPG 12 rfl (by kernel_rfl) rfl rfl rfl (fun _ => hs.to) (fun _ => E.indexAddr rfl rfl Tryz.underlying58 Tryz.sz54 rfl (by first | omega | decide)) ?_
 refine D.evG 8 rfl (by kernel_rfl) rfl rfl rfl hs.to (fun _ hS => E.loadRowC rfl Tryz.underlying54 rfl Tryz.sz54 ⟨A1 _ hS, Enc.len _⟩) (D.evG 13 rfl (by kernel_rfl) rfl rfl rfl hs.to (fun _ hS => E.loadRowC rfl Tryz.underlying54 rfl Tryz.sz54 ⟨A2 _ hS, Enc.len _⟩) (D.act 14 rfl (by kernel_rfl) (R.gyes rfl rfl ?_)))
 refine R.callV hf.1 rfl rfl rfl (hf.2 _ _ _ _ inferInstance hs) ?_
 rintro _ w5 ⟨cc5, rfl, hcc5, hs⟩
 refine D.backT (by kernel_rfl) ?_
 refine D.evPG 15 rfl (by kernel_rfl) rfl rfl rfl (np (by kernel_rfl)) (fun _ => (E.lss rfl rfl).isB (c := lt d1[i2]! d1[i2 - 1]!) hcc5) ?_
 refine D.evPG 16 rfl (by kernel_rfl) rfl rfl rfl (np (by kernel_rfl)) (fun _ => (E.not rfl).isB (c := !(lt d1[i2]! d1[i2 - 1]!)) rfl) ?_
 refine D.evP 17 rfl (by kernel_rfl) rfl (np (by kernel_rfl)) (fun _ => E.pickT rfl rfl) (D.done rfl (by kernel_rfl) (X.keep [(0, _), (1, _), (2, _), (3, _), (9, _), (10, _), (36, _)] ⟨rfl, rfl, rfl, rfl, rfl, rfl, rfl, trivial⟩ ?_))
 refine X.cut (()) ⟨lkV rfl ?_, rfl, rfl, rfl, rfl, rfl, rfl, trivial⟩ ?_
 · first | exact gT h22 | exact gF h22
 exact hs
 refine D.skipP 4 rfl (by kernel_rfl) rfl rfl rfl (fun _ => hs.to) (D.skipP 5 rfl (by kernel_rfl) rfl rfl rfl (fun _ => hs.to) (D.skipP 6 rfl (by kernel_rfl) rfl rfl rfl (fun _ => hs.to) (D.skipP 7 rfl (by kernel_rfl) rfl rfl rfl (fun _ => hs.to) (D.skipP 9 rfl (by kernel_rfl) rfl rfl rfl (fun _ => hs.to) (D.skipP 10 rfl (by kernel_rfl) rfl rfl rfl (fun _ => hs.to) (D.skipP 11 rfl (by kernel_rfl) rfl rfl rfl (fun _ => hs.to) (D.skipP 12 rfl (by kernel_rfl) rfl rfl rfl (fun _ => hs.to) (D.skip 8 rfl (by kernel_rfl) rfl rfl rfl hs.to ?_))))))))
 refine D.skip 13 rfl (by kernel_rfl) rfl rfl rfl hs.to (D.act 14 rfl (by kernel_rfl) (R.gskip rfl rfl rfl (D.backT (by kernel_rfl) (D.skipP 15 rfl (by kernel_rfl) rfl rfl rfl (np (by kernel_rfl)) (D.skipP 16 rfl (by kernel_rfl) rfl rfl rfl (np (by kernel_rfl)) (D.evP 17 rfl (by kernel_rfl) rfl (np (by kernel_rfl)) (fun _ => E.pickF rfl rfl) (D.done rfl (by kernel_rfl) (X.keep [(0, _), (1, _), (2, _), (3, _), (9, _), (10, _), (36, _)] ⟨rfl, rfl, rfl, rfl, rfl, rfl, rfl, trivial⟩ ?_))))))))
 refine X.cut (()) ⟨lkV rfl ?_, rfl, rfl, rfl, rfl, rfl, rfl, trivial⟩ ?_
 · first | exact gT h22 | exact gF h22
 exact hs
 rintro _ w5 hs
 refine X.keep [(0, _), (1, _), (2, _), (3, _), (9, _), (10, _), (36, _)] ⟨rfl, rfl, rfl, rfl, rfl, rfl, rfl, trivial⟩ (X.next ?_)
 refine C.cbool rfl (fun h36 => ?_) (fun h36 => ?_)
 have hT := and_T h36
 refine C.skip (X.next (C.block (C.region (R.ev rfl (E.move rfl) ?_))))
 refine R.ev rfl ((E.add rfl rfl (by omega) (by omega)).isI (c := ((i2 + 1 : Nat) : Int)) (by omega)) ?_
 refine R.ev rfl (E.assign rfl) (R.done (X.keep [(0, _), (1, _), (2, _), (3, _), (9, _), (10, _)] ⟨rfl, rfl, rfl, rfl, rfl, rfl, trivial⟩ (X.blockNormal ?_)))
 exact X.again (i2 + 1) ⟨rfl, rfl, rfl, rfl, rfl, rfl, trivial⟩ ⟨by rw [← hi2, scanSorted_go (i := i2) (by omega) (by simpa using hT.2)], by omega, by omega, hs⟩ (by omega)
 have hF := and_F h36
 rw [scanSorted_stop (fun hh => hF ⟨by omega, by rw [hh.2]; rfl⟩)] at hi2
 refine C.exit (X.thenExit (X.loopExit (X.blockExit (X.next (C.seq (C.seq (C.region (R.ev rfl (E.move rfl) ?_))))))))
 refine R.ev rfl (E.move rfl) (R.ev rfl (E.eql rfl rfl) (R.done (X.keep [(0, _), (1, _), (2, _), (3, _), (9, _), (10, _), (41, _)] ⟨rfl, rfl, rfl, rfl, rfl, rfl, rfl, trivial⟩ (X.next ?_))))
 refine C.cdec rfl (fun h41 => ?_) (fun h41 => ?_)
 refine C.seq (C.region (R.ev rfl (E.assign rfl) (R.done (X.keep [(8, _)] ⟨rfl, trivial⟩ (X.next (C.ret (X.thenRet (X.blockRet ?_))))))))
 refine X.thenRet (X.loopRet (X.blockRet (X.thenRet (X.ret1 rfl rfl ?_))))
 have e : i2 = b0 := by omega
 rw [pIns_sorted (by rw [← hi2, e])] at he
 rw [← he]
 exact ⟨rfl, F1, r1, hs⟩
 refine C.skip (X.next (C.seq (C.seq (C.region (R.ev rfl (E.move rfl) (R.ev rfl (E.move rfl) ?_))))))
 refine R.ev rfl ((E.sub rfl rfl (by omega) (by omega)).isI (c := ((b0 - a : Nat) : Int)) (by omega)) ?_
 refine R.ev rfl (E.lss rfl rfl) (R.done (X.keep [(0, _), (1, _), (2, _), (3, _), (9, _), (10, _), (45, _)] ⟨rfl, rfl, rfl, rfl, rfl, rfl, rfl, trivial⟩ (X.next ?_)))
 refine C.cdec rfl (fun h45 => ?_) (fun h45 => ?_)
 refine C.seq (C.region (R.ev rfl (E.assign rfl) (R.done (X.keep [(8, _)] ⟨rfl, trivial⟩ (X.next (C.ret (X.thenRet (X.blockRet ?_))))))))
 refine X.thenRet (X.loopRet (X.blockRet (X.thenRet (X.ret1 rfl rfl ?_))))
 rw [pIns_short hi2.symm (by omega) (by omega)] at he
 rw [← he]
 exact ⟨rfl, F1, r1, hs⟩
 refine C.skip (X.next (C.seq ?_))
 refine C.drawn (SatS hs) ([9, 13], [0, 1, 2, 3, 4, 5, 6, 7, 8, 10, 11, 12, 14, 16]) (by kernel_rfl) ?_
 have hs := hs.drew
 have A1 := r1.el (K := K) (Hs := F1 :: Rs) (i := i2) (by omega)
 have A2 := r1.el (K := K) (Hs := F1 :: Rs) (i := i2 - 1) (by omega)
 refine D.evP 0 rfl (by kernel_rfl) rfl (fun _ => hs.to) (fun _ => E.move rfl) (D.evP 1 rfl (by kernel_rfl) rfl (fun _ => hs.to) (fun _ => E.move rfl) (D.evP 2 rfl (by kernel_rfl) rfl (fun _ => hs.to) (fun _ => E.move rfl) (D.evP 3 rfl (by kernel_rfl) rfl (fun _ => hs.to) (fun _ => E.move rfl) ?_)))
 refine D.evP 4 rfl (by kernel_rfl) rfl (fun _ => hs.to) (fun _ => (E.sub rfl rfl (by omega) (by omega)).isI (c := ((i2 - 1 : Nat) : Int)) (by omega)) ?_
 refine D.evP 5 rfl (by kernel_rfl) rfl (fun _ => hs.to) (fun _ => E.move rfl) (D.evP 6 rfl (by kernel_rfl) rfl (fun _ => hs.to) (fun _ => E.move rfl) ?_)
 refine D.evP 7 rfl (by kernel_rfl) rfl (fun _ => hs.to) (fun _ => (E.sub rfl rfl (by omega) (by omega)).isI (c := ((i2 - 1 : Nat) : Int)) (by omega)) ?_
 refine D.evP 8 rfl (by kernel_rfl) rfl (fun _ => hs.to) (fun _ => E.indexAddr rfl rfl Tryz.underlying58 Tryz.sz54 rfl (by first | omega | decide)) ?_
 refine D.evP 10 rfl (by kernel_rfl) rfl (fun _ => hs.to) (fun _ => E.move rfl) (D.evP 11 rfl (by kernel_rfl) rfl (fun _ => hs.to) (fun _ => E.move rfl) ?_)
 refine D.evP 12 rfl (by kernel_rfl) rfl (fun _ => hs.to) (fun _ => E.indexAddr rfl rfl Tryz.underlying58 Tryz.sz54 rfl (by first | omega | decide)) ?_
 refine D.ev 9 rfl (by kernel_rfl) rfl hs.to (fun _ hS => E.loadRowC rfl Tryz.underlying54 rfl Tryz.sz54 ⟨A2 _ hS, Enc.len _⟩) (D.ev 13 rfl (by kernel_rfl) rfl hs.to (fun _ hS => E.loadRowC rfl Tryz.underlying54 rfl Tryz.sz54 ⟨A1 _ hS, Enc.len _⟩) ?_)
 refine D.evP 14 rfl (by kernel_rfl) rfl (fun _ => hs.to) (fun _ => E.indexAddr rfl rfl Tryz.underlying58 Tryz.sz54 rfl (by first | omega | decide)) ?_
 refine D.act 15 rfl (by kernel_rfl) (R.dset (i2) hs (r1) rfl rfl Tryz.sz54 (by omega) ?_)
 intro w11a F11a r11a hs
 refine D.backT (by kernel_rfl) ?_
 refine D.evP 16 rfl (by kernel_rfl) rfl (np (by kernel_rfl)) (fun _ => E.indexAddr rfl rfl Tryz.underlying58 Tryz.sz54 rfl (by first | omega | decide)) ?_
 refine D.act 17 rfl (by kernel_rfl) (R.dset (i2 - 1) hs r11a rfl rfl Tryz.sz54 (by omega) ?_)
 intro w11 F11 r11 hs
 refine D.backT (by kernel_rfl) (D.done rfl (by kernel_rfl) (X.keep [(0, _), (1, _), (2, _), (3, _), (9, _), (10, _)] ⟨rfl, rfl, rfl, rfl, rfl, rfl, trivial⟩ (X.next (C.seq (C.seq (C.region (R.ev rfl (E.move rfl) (R.ev rfl (E.move rfl) ?_))))))))
 refine R.ev rfl ((E.sub rfl rfl (by omega) (by omega)).isI (c := ((i2 - a : Nat) : Int)) (by omega)) ?_
 refine R.ev rfl (E.geq rfl rfl) (R.done (X.keep [(0, _), (1, _), (2, _), (3, _), (9, _), (10, _), (65, _)] ⟨rfl, rfl, rfl, rfl, rfl, rfl, rfl, trivial⟩ (X.next ?_)))
 refine C.cut [(0, _), (1, _), (2, _), (3, _), (9, _), (10, _)] (fun (_ : Array (Vec 16) × Hl) => []) (fun (d3, F3) w' => d3 = (if i2 - a ≥ 2 then shiftDown lt (i2 - 1) (swp d1 i2 (i2 - 1)) else swp d1 i2 (i2 - 1)) ∧ auA b m c0 d3 F3 ∧ Sat K w' (F3 :: Rs)) ⟨rfl, rfl, rfl, rfl, rfl, rfl, trivial⟩ ?_ ?_
 refine C.cdec rfl (fun h65 => ?_) (fun h65 => ?_)
 refine C.seq (C.region (R.ev rfl (E.move rfl) ?_))
 refine R.ev rfl ((E.sub rfl rfl (by omega) (by omega)).isI (c := ((i2 - 1 : Nat) : Int)) (by omega)) ?_
 refine R.ev rfl (E.assign rfl) (R.done (X.keep [(0, _), (1, _), (2, _), (3, _), (9, _), (10, _), (11, _)] ⟨rfl, rfl, rfl, rfl, rfl, rfl, rfl, trivial⟩ (X.next (C.block ?_))))
 refine C.loop (T := Nat × Array (Vec 16) × Hl) [(0, _), (1, _), (2, _), (3, _), (9, _), (10, _)] (fun (j, _, _) => [(11, .int .i64 (j : Nat))]) (fun (j, d3, F3) w' => shiftDown lt j d3 = shiftDown lt (i2 - 1) (swp d1 i2 (i2 - 1)) ∧ j < i2 ∧ auA b m c0 d3 F3 ∧ Sat K w' (F3 :: Rs)) (fun (j, _) => j) ((i2 - 1, _, F11)) ⟨rfl, rfl, rfl, rfl, rfl, rfl, rfl, trivial⟩ ⟨rfl, by omega, r11, hs⟩ ?_
 rintro ⟨j, d3, F3⟩ w13 ⟨hj, hji, r3, hs⟩
 refine C.keep [(0, _), (1, _), (2, _), (3, _), (9, _), (10, _), (11, _)] ⟨rfl, rfl, rfl, rfl, rfl, rfl, rfl, trivial⟩ (C.seq (C.seq (C.region (R.ev rfl (E.move rfl) (R.ev rfl (E.geq rfl rfl) (R.done (X.keep [(0, _), (1, _), (2, _), (3, _), (9, _), (10, _), (11, _), (69, _)] ⟨rfl, rfl, rfl, rfl, rfl, rfl, rfl, rfl, trivial⟩ (X.next ?_))))))))
 refine C.cdec rfl (fun h69 => ?_) (fun h69 => ?_)
 have A1 := r3.el (K := K) (Hs := F3 :: Rs) (i := j) (by omega)
 have A2 := r3.el (K := K) (Hs := F3 :: Rs) (i := j - 1) (by omega)
 refine C.skip (X.next (C.seq (C.block (C.seq (C.seq ?_)))))
 refine C.drawn (SatS hs) ([4, 9], [0, 1, 2, 3, 5, 6, 7, 8, 11, 12]) (by kernel_rfl) ?_
 have hs := hs.drew
 refine D.evP 0 rfl (by kernel_rfl) rfl (fun _ => hs.to) (fun _ => E.move rfl) (D.evP 1 rfl (by kernel_rfl) rfl (fun _ => hs.to) (fun _ => E.move rfl) (D.evP 2 rfl (by kernel_rfl) rfl (fun _ => hs.to) (fun _ => E.move rfl) ?_))
 refine D.evP 3 rfl (by kernel_rfl) rfl (fun _ => hs.to) (fun _ => E.indexAddr rfl rfl Tryz.underlying58 Tryz.sz54 rfl (by first | omega | decide)) ?_
 refine D.evP 5 rfl (by kernel_rfl) rfl (fun _ => hs.to) (fun _ => E.move rfl) (D.evP 6 rfl (by kernel_rfl) rfl (fun _ => hs.to) (fun _ => E.move rfl) ?_)
 refine D.evP 7 rfl (by kernel_rfl) rfl (fun _ => hs.to) (fun _ => (E.sub rfl rfl (by omega) (by omega)).isI (c := ((j - 1 : Nat) : Int)) (by omega)) ?_
 refine D.evP 8 rfl (by kernel_rfl) rfl (fun _ => hs.to) (fun _ => E.indexAddr rfl rfl Tryz.underlying58 Tryz.sz54 rfl (by first | omega | decide)) ?_
 refine D.ev 4 rfl (by kernel_rfl) rfl hs.to (fun _ hS => E.loadRowC rfl Tryz.underlying54 rfl Tryz.sz54 ⟨A1 _ hS, Enc.len _⟩) (D.ev 9 rfl (by kernel_rfl) rfl hs.to (fun _ hS => E.loadRowC rfl Tryz.underlying54 rfl Tryz.sz54 ⟨A2 _ hS, Enc.len _⟩) (D.act 10 rfl (by kernel_rfl) ?_))
 refine R.callV hf.1 rfl rfl rfl (hf.2 _ _ _ _ inferInstance hs) ?_
 rintro _ w16 ⟨cc16, rfl, hcc16, hs⟩
 refine D.backT (by kernel_rfl) ?_
 refine D.evP 11 rfl (by kernel_rfl) rfl (np (by kernel_rfl)) (fun _ => (E.lss rfl rfl).isB (c := lt d3[j]! d3[j - 1]!) hcc16) ?_
 refine D.evP 12 rfl (by kernel_rfl) rfl (np (by kernel_rfl)) (fun _ => (E.not rfl).isB (c := !(lt d3[j]! d3[j - 1]!)) rfl) ?_
 refine D.done rfl (by kernel_rfl) (X.keep [(0, _), (1, _), (2, _), (3, _), (9, _), (10, _), (11, _), (84, _)] ⟨rfl, rfl, rfl, rfl, rfl, rfl, rfl, rfl, trivial⟩ (X.next ?_))
 refine C.cbool rfl (fun h84 => ?_) (fun h84 => ?_)
 refine C.exit (X.thenExit (X.blockOther rfl (X.thenExit (X.loopExit (X.blockExit ?_)))))
 first
   | exact X.cut ((d3, F3)) ⟨rfl, rfl, rfl, rfl, rfl, rfl, trivial⟩ ⟨by rw [if_pos (by omega), ← hj]; exact (shiftDown_stop (fun hh => by rw [hh.2] at h84; exact Bool.noConfusion h84)).symm, r3, hs⟩
   | exact X.cut ((d3, F3)) ⟨rfl, rfl, rfl, rfl, rfl, rfl, trivial⟩ ⟨by rw [if_pos (by omega), ← hj]; exact (shiftDown_stop (fun hh => by omega)).symm, r3, hs⟩
   | exact X.cut ((_, F11)) ⟨rfl, rfl, rfl, rfl, rfl, rfl, trivial⟩ ⟨by rw [if_neg (by omega)]; rfl, r11, hs⟩
 refine C.skip (X.next ?_)
 refine C.drawn (SatS hs) ([9, 13], [0, 1, 2, 3, 4, 5, 6, 7, 8, 10, 11, 12, 14, 16]) (by kernel_rfl) ?_
 have hs := hs.drew
 refine D.evP 0 rfl (by kernel_rfl) rfl (fun _ => hs.to) (fun _ => E.move rfl) (D.evP 1 rfl (by kernel_rfl) rfl (fun _ => hs.to) (fun _ => E.move rfl) (D.evP 2 rfl (by kernel_rfl) rfl (fun _ => hs.to) (fun _ => E.move rfl) (D.evP 3 rfl (by kernel_rfl) rfl (fun _ => hs.to) (fun _ => E.move rfl) ?_)))
 refine D.evP 4 rfl (by kernel_rfl) rfl (fun _ => hs.to) (fun _ => (E.sub rfl rfl (by omega) (by omega)).isI (c := ((j - 1 : Nat) : Int)) (by omega)) ?_
 refine D.evP 5 rfl (by kernel_rfl) rfl (fun _ => hs.to) (fun _ => E.move rfl) (D.evP 6 rfl (by kernel_rfl) rfl (fun _ => hs.to) (fun _ => E.move rfl) ?_)
 refine D.evP 7 rfl (by kernel_rfl) rfl (fun _ => hs.to) (fun _ => (E.sub rfl rfl (by omega) (by omega)).isI (c := ((j - 1 : Nat) : Int)) (by omega)) ?_
 refine D.evP 8 rfl (by kernel_rfl) rfl (fun _ => hs.to) (fun _ => E.indexAddr rfl rfl Tryz.underlying58 Tryz.sz54 rfl (by first | omega | decide)) ?_
 refine D.evP 10 rfl (by kernel_rfl) rfl (fun _ => hs.to) (fun _ => E.move rfl) (D.evP 11 rfl (by kernel_rfl) rfl (fun _ => hs.to) (fun _ => E.move rfl) ?_)
 refine D.evP 12 rfl (by kernel_rfl) rfl (fun _ => hs.to) (fun _ => E.indexAddr rfl rfl Tryz.underlying58 Tryz.sz54 rfl (by first | omega | decide)) ?_
 refine D.ev 9 rfl (by kernel_rfl) rfl hs.to (fun _ hS => E.loadRowC rfl Tryz.underlying54 rfl Tryz.sz54 ⟨A2 _ hS, Enc.len _⟩) (D.ev 13 rfl (by kernel_rfl) rfl hs.to (fun _ hS => E.loadRowC rfl Tryz.underlying54 rfl Tryz.sz54 ⟨A1 _ hS, Enc.len _⟩) ?_)
 refine D.evP 14 rfl (by kernel_rfl) rfl (fun _ => hs.to) (fun _ => E.indexAddr rfl rfl Tryz.underlying58 Tryz.sz54 rfl (by first | omega | decide)) ?_
 refine D.act 15 rfl (by kernel_rfl) (R.dset (j) hs (r3) rfl rfl Tryz.sz54 (by omega) ?_)
 intro w17a F17a r17a hs
 refine D.backT (by kernel_rfl) ?_
 refine D.evP 16 rfl (by kernel_rfl) rfl (np (by kernel_rfl)) (fun _ => E.indexAddr rfl rfl Tryz.underlying58 Tryz.sz54 rfl (by first | omega | decide)) ?_
 refine D.act 17 rfl (by kernel_rfl) (R.dset (j - 1) hs r17a rfl rfl Tryz.sz54 (by omega) ?_)
 intro w17 F17 r17 hs
 refine D.backT (by kernel_rfl) (D.done rfl (by kernel_rfl) (X.keep [(0, _), (1, _), (2, _), (3, _), (9, _), (10, _), (11, _)] ⟨rfl, rfl, rfl, rfl, rfl, rfl, rfl, trivial⟩ (X.blockNormal (X.next (C.region (R.ev rfl (E.move rfl) ?_))))))
 refine R.ev rfl ((E.sub rfl rfl (by omega) (by omega)).isI (c := ((j - 1 : Nat) : Int)) (by omega)) ?_
 refine R.ev rfl (E.assign rfl) (R.done (X.keep [(0, _), (1, _), (2, _), (3, _), (9, _), (10, _), (11, _)] ⟨rfl, rfl, rfl, rfl, rfl, rfl, rfl, trivial⟩ ?_))
 exact X.again (j - 1, _, F17) ⟨rfl, rfl, rfl, rfl, rfl, rfl, rfl, trivial⟩ ⟨(shiftDown_go (d := d3) (by omega) (by simpa using h84)).symm.trans hj, by omega, r17, hs⟩ (by show j - 1 < j; omega)
 refine C.exit (X.thenExit (X.loopExit (X.blockExit ?_)))
 first
   | exact X.cut ((d3, F3)) ⟨rfl, rfl, rfl, rfl, rfl, rfl, trivial⟩ ⟨by rw [if_pos (by omega), ← hj]; exact (shiftDown_stop (fun hh => by rw [hh.2] at h84; exact Bool.noConfusion h84)).symm, r3, hs⟩
   | exact X.cut ((d3, F3)) ⟨rfl, rfl, rfl, rfl, rfl, rfl, trivial⟩ ⟨by rw [if_pos (by omega), ← hj]; exact (shiftDown_stop (fun hh => by omega)).symm, r3, hs⟩
   | exact X.cut ((_, F11)) ⟨rfl, rfl, rfl, rfl, rfl, rfl, trivial⟩ ⟨by rw [if_neg (by omega)]; rfl, r11, hs⟩
 refine C.skip ?_
 first
   | exact X.cut ((d3, F3)) ⟨rfl, rfl, rfl, rfl, rfl, rfl, trivial⟩ ⟨by rw [if_pos (by omega), ← hj]; exact (shiftDown_stop (fun hh => by rw [hh.2] at h84; exact Bool.noConfusion h84)).symm, r3, hs⟩
   | exact X.cut ((d3, F3)) ⟨rfl, rfl, rfl, rfl, rfl, rfl, trivial⟩ ⟨by rw [if_pos (by omega), ← hj]; exact (shiftDown_stop (fun hh => by omega)).symm, r3, hs⟩
   | exact X.cut ((_, F11)) ⟨rfl, rfl, rfl, rfl, rfl, rfl, trivial⟩ ⟨by rw [if_neg (by omega)]; rfl, r11, hs⟩
 rintro ⟨d3, F3⟩ w12 ⟨hd3, r3, hs⟩
 refine X.keep [(0, _), (1, _), (2, _), (3, _), (9, _), (10, _)] ⟨rfl, rfl, rfl, rfl, rfl, rfl, trivial⟩ (X.next (C.seq (C.region (R.ev rfl (E.move rfl) (R.ev rfl (E.move rfl) ?_)))))
 refine R.ev rfl ((E.sub rfl rfl (by omega) (by omega)).isI (c := ((b0 - i2 : Nat) : Int)) (by omega)) ?_
 refine R.ev rfl (E.geq rfl rfl) (R.done (X.keep [(0, _), (1, _), (2, _), (3, _), (9, _), (10, _), (104, _)] ⟨rfl, rfl, rfl, rfl, rfl, rfl, rfl, trivial⟩ (X.next ?_)))
 refine C.cut [(0, _), (1, _), (2, _), (3, _), (9, _), (10, _)] (fun (_ : Array (Vec 16) × Hl) => []) (fun (d4, F4) w' => d4 = (if b0 - i2 ≥ 2 then shiftUp lt b0 (i2 + 1) d3 else d3) ∧ auA b m c0 d4 F4 ∧ Sat K w' (F4 :: Rs)) ⟨rfl, rfl, rfl, rfl, rfl, rfl, trivial⟩ ?_ ?_
 refine C.cdec rfl (fun h104 => ?_) (fun h104 => ?_)
 refine C.seq (C.region (R.ev rfl (E.move rfl) ?_))
 refine R.ev rfl ((E.add rfl rfl (by omega) (by omega)).isI (c := ((i2 + 1 : Nat) : Int)) (by omega)) ?_
 refine R.ev rfl (E.assign rfl) (R.done (X.keep [(0, _), (1, _), (2, _), (3, _), (9, _), (10, _), (12, _)] ⟨rfl, rfl, rfl, rfl, rfl, rfl, rfl, trivial⟩ (X.next (C.block ?_))))
 refine C.loop (T := Nat × Array (Vec 16) × Hl) [(0, _), (1, _), (2, _), (3, _), (9, _), (10, _)] (fun (j, _, _) => [(12, .int .i64 (j : Nat))]) (fun (j, d4, F4) w' => shiftUp lt b0 j d4 = shiftUp lt b0 (i2 + 1) d3 ∧ i2 < j ∧ j ≤ b0 ∧ auA b m c0 d4 F4 ∧ Sat K w' (F4 :: Rs)) (fun (j, _) => b0 - j) ((i2 + 1, d3, F3)) ⟨rfl, rfl, rfl, rfl, rfl, rfl, rfl, trivial⟩ ⟨rfl, by omega, by omega, r3, hs⟩ ?_
 rintro ⟨j, d4, F4⟩ w19 ⟨hj, hji, hjb, r4, hs⟩
 refine C.keep [(0, _), (1, _), (2, _), (3, _), (9, _), (10, _), (12, _)] ⟨rfl, rfl, rfl, rfl, rfl, rfl, rfl, trivial⟩ (C.seq (C.seq (C.region (R.ev rfl (E.move rfl) (R.ev rfl (E.move rfl) (R.ev rfl (E.lss rfl rfl) (R.done (X.keep [(0, _), (1, _), (2, _), (3, _), (9, _), (10, _), (12, _), (109, _)] ⟨rfl, rfl, rfl, rfl, rfl, rfl, rfl, rfl, trivial⟩ ?_))))))))
 refine X.next ?_
 refine C.cdec rfl (fun h109 => ?_) (fun h109 => ?_)
 have A1 := r4.el (K := K) (Hs := F4 :: Rs) (i := j) (by omega)
 have A2 := r4.el (K := K) (Hs := F4 :: Rs) (i := j - 1) (by omega)
 refine C.skip (X.next (C.seq (C.block (C.seq (C.seq ?_)))))
 refine C.drawn (SatS hs) ([4, 9], [0, 1, 2, 3, 5, 6, 7, 8, 11, 12]) (by kernel_rfl) ?_
 have hs := hs.drew
 refine D.evP 0 rfl (by kernel_rfl) rfl (fun _ => hs.to) (fun _ => E.move rfl) (D.evP 1 rfl (by kernel_rfl) rfl (fun _ => hs.to) (fun _ => E.move rfl) (D.evP 2 rfl (by kernel_rfl) rfl (fun _ => hs.to) (fun _ => E.move rfl) ?_))
 refine D.evP 3 rfl (by kernel_rfl) rfl (fun _ => hs.to) (fun _ => E.indexAddr rfl rfl Tryz.underlying58 Tryz.sz54 rfl (by first | omega | decide)) ?_
 refine D.evP 5 rfl (by kernel_rfl) rfl (fun _ => hs.to) (fun _ => E.move rfl) (D.evP 6 rfl (by kernel_rfl) rfl (fun _ => hs.to) (fun _ => E.move rfl) ?_)
 refine D.evP 7 rfl (by kernel_rfl) rfl (fun _ => hs.to) (fun _ => (E.sub rfl rfl (by omega) (by omega)).isI (c := ((j - 1 : Nat) : Int)) (by omega)) ?_
 refine D.evP 8 rfl (by kernel_rfl) rfl (fun _ => hs.to) (fun _ => E.indexAddr rfl rfl Tryz.underlying58 Tryz.sz54 rfl (by first | omega | decide)) ?_
 refine D.ev 4 rfl (by kernel_rfl) rfl hs.to (fun _ hS => E.loadRowC rfl Tryz.underlying54 rfl Tryz.sz54 ⟨A1 _ hS, Enc.len _⟩) (D.ev 9 rfl (by kernel_rfl) rfl hs.to (fun _ hS => E.loadRowC rfl Tryz.underlying54 rfl Tryz.sz54 ⟨A2 _ hS, Enc.len _⟩) (D.act 10 rfl (by kernel_rfl) ?_))
 refine R.callV hf.1 rfl rfl rfl (hf.2 _ _ _ _ inferInstance hs) ?_
 rintro _ w22 ⟨cc22, rfl, hcc22, hs⟩
 refine D.backT (by kernel_rfl) ?_
 refine D.evP 11 rfl (by kernel_rfl) rfl (np (by kernel_rfl)) (fun _ => (E.lss rfl rfl).isB (c := lt d4[j]! d4[j - 1]!) hcc22) ?_
 refine D.evP 12 rfl (by kernel_rfl) rfl (np (by kernel_rfl)) (fun _ => (E.not rfl).isB (c := !(lt d4[j]! d4[j - 1]!)) rfl) ?_
 refine D.done rfl (by kernel_rfl) (X.keep [(0, _), (1, _), (2, _), (3, _), (9, _), (10, _), (12, _), (124, _)] ⟨rfl, rfl, rfl, rfl, rfl, rfl, rfl, rfl, trivial⟩ (X.next ?_))
 refine C.cbool rfl (fun h124 => ?_) (fun h124 => ?_)
 refine C.exit (X.thenExit (X.blockOther rfl (X.thenExit (X.loopExit (X.blockExit ?_)))))
 first
   | exact X.cut ((d4, F4)) ⟨rfl, rfl, rfl, rfl, rfl, rfl, trivial⟩ ⟨by rw [if_pos (by omega), ← hj]; exact (shiftUp_stop (fun hh => by rw [hh.2] at h124; exact Bool.noConfusion h124)).symm, r4, hs⟩
   | exact X.cut ((d4, F4)) ⟨rfl, rfl, rfl, rfl, rfl, rfl, trivial⟩ ⟨by rw [if_pos (by omega), ← hj]; exact (shiftUp_stop (fun hh => by omega)).symm, r4, hs⟩
   | exact X.cut ((d3, F3)) ⟨rfl, rfl, rfl, rfl, rfl, rfl, trivial⟩ ⟨by rw [if_neg (by omega)], r3, hs⟩
 refine C.skip (X.next ?_)
 refine C.drawn (SatS hs) ([9, 13], [0, 1, 2, 3, 4, 5, 6, 7, 8, 10, 11, 12, 14, 16]) (by kernel_rfl) ?_
 have hs := hs.drew
 refine D.evP 0 rfl (by kernel_rfl) rfl (fun _ => hs.to) (fun _ => E.move rfl) (D.evP 1 rfl (by kernel_rfl) rfl (fun _ => hs.to) (fun _ => E.move rfl) (D.evP 2 rfl (by kernel_rfl) rfl (fun _ => hs.to) (fun _ => E.move rfl) (D.evP 3 rfl (by kernel_rfl) rfl (fun _ => hs.to) (fun _ => E.move rfl) ?_)))
 refine D.evP 4 rfl (by kernel_rfl) rfl (fun _ => hs.to) (fun _ => (E.sub rfl rfl (by omega) (by omega)).isI (c := ((j - 1 : Nat) : Int)) (by omega)) ?_
 refine D.evP 5 rfl (by kernel_rfl) rfl (fun _ => hs.to) (fun _ => E.move rfl) (D.evP 6 rfl (by kernel_rfl) rfl (fun _ => hs.to) (fun _ => E.move rfl) ?_)
 refine D.evP 7 rfl (by kernel_rfl) rfl (fun _ => hs.to) (fun _ => (E.sub rfl rfl (by omega) (by omega)).isI (c := ((j - 1 : Nat) : Int)) (by omega)) ?_
 refine D.evP 8 rfl (by kernel_rfl) rfl (fun _ => hs.to) (fun _ => E.indexAddr rfl rfl Tryz.underlying58 Tryz.sz54 rfl (by first | omega | decide)) ?_
 refine D.evP 10 rfl (by kernel_rfl) rfl (fun _ => hs.to) (fun _ => E.move rfl) (D.evP 11 rfl (by kernel_rfl) rfl (fun _ => hs.to) (fun _ => E.move rfl) ?_)
 refine D.evP 12 rfl (by kernel_rfl) rfl (fun _ => hs.to) (fun _ => E.indexAddr rfl rfl Tryz.underlying58 Tryz.sz54 rfl (by first | omega | decide)) ?_
 refine D.ev 9 rfl (by kernel_rfl) rfl hs.to (fun _ hS => E.loadRowC rfl Tryz.underlying54 rfl Tryz.sz54 ⟨A2 _ hS, Enc.len _⟩) (D.ev 13 rfl (by kernel_rfl) rfl hs.to (fun _ hS => E.loadRowC rfl Tryz.underlying54 rfl Tryz.sz54 ⟨A1 _ hS, Enc.len _⟩) ?_)
 refine D.evP 14 rfl (by kernel_rfl) rfl (fun _ => hs.to) (fun _ => E.indexAddr rfl rfl Tryz.underlying58 Tryz.sz54 rfl (by first | omega | decide)) ?_
 refine D.act 15 rfl (by kernel_rfl) (R.dset (j) hs (r4) rfl rfl Tryz.sz54 (by omega) ?_)
 intro w23a F23a r23a hs
 refine D.backT (by kernel_rfl) ?_
 refine D.evP 16 rfl (by kernel_rfl) rfl (np (by kernel_rfl)) (fun _ => E.indexAddr rfl rfl Tryz.underlying58 Tryz.sz54 rfl (by first | omega | decide)) ?_
 refine D.act 17 rfl (by kernel_rfl) (R.dset (j - 1) hs r23a rfl rfl Tryz.sz54 (by omega) ?_)
 intro w23 F23 r23 hs
 refine D.backT (by kernel_rfl) (D.done rfl (by kernel_rfl) (X.keep [(0, _), (1, _), (2, _), (3, _), (9, _), (10, _), (12, _)] ⟨rfl, rfl, rfl, rfl, rfl, rfl, rfl, trivial⟩ (X.blockNormal (X.next (C.region (R.ev rfl (E.move rfl) ?_))))))
 refine R.ev rfl ((E.add rfl rfl (by omega) (by omega)).isI (c := ((j + 1 : Nat) : Int)) (by omega)) ?_
 refine R.ev rfl (E.assign rfl) (R.done (X.keep [(0, _), (1, _), (2, _), (3, _), (9, _), (10, _), (12, _)] ⟨rfl, rfl, rfl, rfl, rfl, rfl, rfl, trivial⟩ ?_))
 exact X.again (j + 1, _, F23) ⟨rfl, rfl, rfl, rfl, rfl, rfl, rfl, trivial⟩ ⟨(shiftUp_go (d := d4) (by omega) (by simpa using h124)).symm.trans hj, by omega, by omega, r23, hs⟩ (by show _ - _ < _ - _; omega)
 refine C.exit (X.thenExit (X.loopExit (X.blockExit ?_)))
 first
   | exact X.cut ((d4, F4)) ⟨rfl, rfl, rfl, rfl, rfl, rfl, trivial⟩ ⟨by rw [if_pos (by omega), ← hj]; exact (shiftUp_stop (fun hh => by rw [hh.2] at h124; exact Bool.noConfusion h124)).symm, r4, hs⟩
   | exact X.cut ((d4, F4)) ⟨rfl, rfl, rfl, rfl, rfl, rfl, trivial⟩ ⟨by rw [if_pos (by omega), ← hj]; exact (shiftUp_stop (fun hh => by omega)).symm, r4, hs⟩
   | exact X.cut ((d3, F3)) ⟨rfl, rfl, rfl, rfl, rfl, rfl, trivial⟩ ⟨by rw [if_neg (by omega)], r3, hs⟩
 refine C.skip ?_
 first
   | exact X.cut ((d4, F4)) ⟨rfl, rfl, rfl, rfl, rfl, rfl, trivial⟩ ⟨by rw [if_pos (by omega), ← hj]; exact (shiftUp_stop (fun hh => by rw [hh.2] at h124; exact Bool.noConfusion h124)).symm, r4, hs⟩
   | exact X.cut ((d4, F4)) ⟨rfl, rfl, rfl, rfl, rfl, rfl, trivial⟩ ⟨by rw [if_pos (by omega), ← hj]; exact (shiftUp_stop (fun hh => by omega)).symm, r4, hs⟩
   | exact X.cut ((d3, F3)) ⟨rfl, rfl, rfl, rfl, rfl, rfl, trivial⟩ ⟨by rw [if_neg (by omega)], r3, hs⟩
 rintro ⟨d4, F4⟩ w18 ⟨hd4, r4, hs⟩
 refine X.keep [(0, _), (1, _), (2, _), (3, _), (9, _), (10, _)] ⟨rfl, rfl, rfl, rfl, rfl, rfl, trivial⟩ (X.blockNormal (X.next (C.region (R.ev rfl (E.move rfl) ?_))))
 refine R.ev rfl ((E.add rfl rfl (by omega) (by omega)).isI (c := ((q + 1 : Nat) : Int)) (by omega)) ?_
 refine R.ev rfl (E.assign rfl) (R.done (X.keep [(0, _), (1, _), (2, _), (3, _), (9, _), (10, _)] ⟨rfl, rfl, rfl, rfl, rfl, rfl, trivial⟩ ?_))
 exact X.again (q + 1, i2, d4, F4) ⟨rfl, rfl, rfl, rfl, rfl, rfl, trivial⟩ ⟨(pIns_go hi2.symm (by omega) (by omega) hd3 hd4).symm.trans he, by omega, by omega, by omega, r4, hs⟩ (by show _ - _ < _ - _; omega)
 refine C.exit (X.thenExit (X.loopExit (X.blockExit (X.next (C.seq (C.region (R.ev rfl (E.assign rfl) (R.done ?_))))))))
 refine X.keep [(8, _)] ⟨rfl, trivial⟩ (X.next (C.ret (X.ret1 rfl rfl ?_)))
 rw [show 5 - q = 0 by omega] at he
 rw [← he]
 exact ⟨rfl, F1, r1, hs⟩
theorem auord_any {bs s : Nat} (hf : auCmp K Rs fid fst cps lt) (a b0 : Nat) (hs : Sat K w (row bs 3 [.int .i64 (s : Nat)] :: F :: Rs)) (hr : auA b m c0 d F) (ha : a < m) (hb : b0 < m) (hsm : s ≤ 1000) :
   Ret Tryz.prog 93 #[.slice (some ⟨b, 0, none⟩) m c0, .int .i64 (a : Nat), .int .i64 (b0 : Nat), .pointer (some ⟨bs, 0, none⟩), .func (.func fid) fst.toArray cps.toArray] w fun r w' => r = .tuple #[.int .i64 ((order2 lt d a b0 s).1 : Nat), .int .i64 ((order2 lt d a b0 s).2.1 : Nat)] ∧ Sat K w' (row bs 3 [.int .i64 ((order2 lt d a b0 s).2.2 : Nat)] :: F :: Rs) := by
 refine Ret.enter (n := 32) (args := [.slice (some ⟨b, 0, none⟩) m c0, .int .i64 (a : Nat), .int .i64 (b0 : Nat), .pointer (some ⟨bs, 0, none⟩), .func (.func fid) fst.toArray cps.toArray]) Tryz.func93 rfl rfl ?_
 refine C.keep [(0, _), (1, _), (2, _), (3, _), (4, _)] ⟨rfl, rfl, rfl, rfl, rfl, trivial⟩ (C.seq (C.region (R.ev rfl (E.assign rfl) (R.ev rfl (E.assign rfl) (R.done (X.keep [(0, _), (1, _), (2, _), (3, _), (4, _)] ⟨rfl, rfl, rfl, rfl, rfl, trivial⟩ (X.next (C.seq ?_))))))))
 refine C.seq ?_
 refine C.drawn (SatS hs) ([4, 8], [0, 1, 2, 3, 5, 6, 7, 10]) (by kernel_rfl) ?_
 have hs := hs.drew
 have A1 := hr.el (K := K) (Hs := row bs 3 [.int .i64 (s : Nat)] :: F :: Rs) (i := b0) (by omega)
 have A2 := hr.el (K := K) (Hs := row bs 3 [.int .i64 (s : Nat)] :: F :: Rs) (i := a) (by omega)
 refine D.evP 0 rfl (by kernel_rfl) rfl (fun _ => hs.to) (fun _ => E.move rfl) (D.evP 1 rfl (by kernel_rfl) rfl (fun _ => hs.to) (fun _ => E.move rfl) (D.evP 2 rfl (by kernel_rfl) rfl (fun _ => hs.to) (fun _ => E.move rfl) ?_))
 refine D.evP 3 rfl (by kernel_rfl) rfl (fun _ => hs.to) (fun _ => E.indexAddr rfl rfl Tryz.underlying58 Tryz.sz54 rfl (by first | omega | decide)) ?_
 refine D.evP 5 rfl (by kernel_rfl) rfl (fun _ => hs.to) (fun _ => E.move rfl) (D.evP 6 rfl (by kernel_rfl) rfl (fun _ => hs.to) (fun _ => E.move rfl) ?_)
 refine D.evP 7 rfl (by kernel_rfl) rfl (fun _ => hs.to) (fun _ => E.indexAddr rfl rfl Tryz.underlying58 Tryz.sz54 rfl (by first | omega | decide)) ?_
 refine D.ev 4 rfl (by kernel_rfl) rfl hs.to (fun _ hS => E.loadRowC rfl Tryz.underlying54 rfl Tryz.sz54 ⟨A1 _ hS, Enc.len _⟩) (D.ev 8 rfl (by kernel_rfl) rfl hs.to (fun _ hS => E.loadRowC rfl Tryz.underlying54 rfl Tryz.sz54 ⟨A2 _ hS, Enc.len _⟩) (D.act 9 rfl (by kernel_rfl) ?_))
 refine R.callV hf.1 rfl rfl rfl (hf.2 _ _ _ _ inferInstance hs) ?_
 rintro _ w1 ⟨cc1, rfl, hcc1, hs⟩
 refine D.backT (by kernel_rfl) ?_
 refine D.evP 10 rfl (by kernel_rfl) rfl (np (by kernel_rfl)) (fun _ => (E.lss rfl rfl).isB (c := lt d[b0]! d[a]!) hcc1) ?_
 refine D.done rfl (by kernel_rfl) (X.keep [(1, _), (2, _), (3, _), (22, _)] ⟨rfl, rfl, rfl, rfl, trivial⟩ (X.next ?_))
 refine C.cbool rfl (fun h22 => ?_) (fun h22 => ?_)
 refine C.seq (C.region (R.ev rfl (E.move rfl) (R.ev rfl (E.nilCheck rfl) ?_)))
 refine R.ev rfl (E.load1 rfl Tryz.underlying3 rfl (by first | exact hs.ldc | exact hs.ld rfl | exact hs.ld (by assumption) | exact by assumption | exact At.cellC (by assumption))) ?_
 refine R.ev rfl ((E.add rfl rfl (by omega) (by omega)).isI (c := ((s + 1 : Nat) : Int)) (by omega)) ?_
 refine R.ev rfl (E.nilCheck rfl) ?_
 refine R.cstore1 hs rfl rfl Tryz.sz3 (by first | decide | simp [*]) (by first | rfl | exact OneC.one | exact KRow.oneC' (by assumption)) ?_
 intro w2_5 hs
 try simp only [List.set_cons_zero, List.set_cons_succ] at hs
 refine R.done (X.keep [(1, _), (2, _)] ⟨rfl, rfl, trivial⟩ (X.next (C.seq (C.region (R.ev rfl (E.move rfl) (R.ev rfl (E.move rfl) (R.ev rfl (E.assign rfl) (R.ev rfl (E.assign rfl) ?_))))))))
 refine R.done (X.keep [(10, _), (11, _)] ⟨rfl, rfl, trivial⟩ (X.next (C.ret (X.thenRet (X.ret2 rfl rfl rfl ?_)))))
 have e : order2 lt d a b0 s = (b0, a, s + 1) := by rw [order2, if_pos h22]
 rw [e]; exact ⟨rfl, hs⟩
 refine C.skip (X.next (C.seq (C.region (R.ev rfl (E.move rfl) (R.ev rfl (E.move rfl) (R.ev rfl (E.assign rfl) (R.ev rfl (E.assign rfl) (R.done ?_))))))))
 refine X.keep [(10, _), (11, _)] ⟨rfl, rfl, trivial⟩ (X.next (C.ret (X.ret2 rfl rfl rfl ?_)))
 have e : order2 lt d a b0 s = (a, b0, s) := by rw [order2, if_neg (by rw [h22]; decide)]
 rw [e]; exact ⟨rfl, hs⟩
theorem order2_in {a b s N : Nat} (ha : a < N) (hb : b < N) : (order2 lt d a b s).1 < N ∧ (order2 lt d a b s).2.1 < N := by
 unfold order2; split <;> exact ⟨by assumption, by assumption⟩
theorem aumed_any {bs s : Nat} (hf : auCmp K Rs fid fst cps lt) (a b0 c : Nat) (hs : Sat K w (row bs 3 [.int .i64 (s : Nat)] :: F :: Rs)) (hr : auA b m c0 d F) (ha : a < m) (hb : b0 < m) (hc : c < m) (hsm : s ≤ 100) :
   Ret Tryz.prog 88 #[.slice (some ⟨b, 0, none⟩) m c0, .int .i64 (a : Nat), .int .i64 (b0 : Nat), .int .i64 (c : Nat), .pointer (some ⟨bs, 0, none⟩), .func (.func fid) fst.toArray cps.toArray] w fun r w' => r = .int .i64 ((median lt d a b0 c s).1 : Nat) ∧ Sat K w' (row bs 3 [.int .i64 ((median lt d a b0 c s).2 : Nat)] :: F :: Rs) := by
 have i1 := order2_in (lt := lt) (d := d) (s := s) ha hb
 have n1 := order2_count lt d a b0 s
 have i2 := order2_in (lt := lt) (d := d) (s := (order2 lt d a b0 s).2.2) i1.2 hc
 have n2 := order2_count lt d (order2 lt d a b0 s).2.1 c (order2 lt d a b0 s).2.2
 refine Ret.enter (n := 41) (args := [.slice (some ⟨b, 0, none⟩) m c0, .int .i64 (a : Nat), .int .i64 (b0 : Nat), .int .i64 (c : Nat), .pointer (some ⟨bs, 0, none⟩), .func (.func fid) fst.toArray cps.toArray]) Tryz.func88 rfl rfl ?_
 refine C.keep [(0, _), (1, _), (2, _), (3, _), (4, _), (5, _)] ⟨rfl, rfl, rfl, rfl, rfl, rfl, trivial⟩ (C.seq (C.region (R.ev rfl (E.assign rfl) (R.done (X.keep [(0, _), (1, _), (2, _), (3, _), (4, _), (5, _)] ⟨rfl, rfl, rfl, rfl, rfl, rfl, trivial⟩ (X.next (C.seq (C.region ?_))))))))
 refine R.ev rfl (E.move rfl) (R.ev rfl (E.move rfl) (R.ev rfl (E.move rfl) (R.ev rfl (E.move rfl) (R.ev rfl (E.move rfl) ?_))))
 refine R.call ⟨_, _, Tryz.func93, rfl, by kernel_rfl⟩ rfl rfl (auord_any hf a b0 hs hr ha hb (by omega)) ?_
 rintro _ w1 ⟨rfl, hs⟩
 refine R.ev rfl (E.move rfl) (R.ev rfl (E.extract rfl rfl) (R.ev rfl (E.extract rfl rfl) (R.ev rfl (E.assign rfl) (R.ev rfl (E.assign rfl) (R.done (X.keep [(0, _), (1, _), (2, _), (3, _), (4, _), (5, _)] ⟨rfl, rfl, rfl, rfl, rfl, rfl, trivial⟩ (X.next (C.seq ?_))))))))
 refine C.region (R.ev rfl (E.move rfl) (R.ev rfl (E.move rfl) (R.ev rfl (E.move rfl) (R.ev rfl (E.move rfl) (R.ev rfl (E.move rfl) ?_)))))
 refine R.call ⟨_, _, Tryz.func93, rfl, by kernel_rfl⟩ rfl rfl (auord_any hf (order2 lt d a b0 s).2.1 c hs hr i1.2 hc (by omega)) ?_
 rintro _ w2 ⟨rfl, hs⟩
 refine R.ev rfl (E.move rfl) (R.ev rfl (E.extract rfl rfl) (R.ev rfl (E.extract rfl rfl) (R.ev rfl (E.assign rfl) (R.ev rfl (E.assign rfl) (R.done (X.keep [(0, _), (1, _), (2, _), (4, _), (5, _)] ⟨rfl, rfl, rfl, rfl, rfl, trivial⟩ (X.next (C.seq ?_))))))))
 refine C.region (R.ev rfl (E.move rfl) (R.ev rfl (E.move rfl) (R.ev rfl (E.move rfl) (R.ev rfl (E.move rfl) (R.ev rfl (E.move rfl) ?_)))))
 refine R.call ⟨_, _, Tryz.func93, rfl, by kernel_rfl⟩ rfl rfl (auord_any hf (order2 lt d a b0 s).1 (order2 lt d (order2 lt d a b0 s).2.1 c (order2 lt d a b0 s).2.2).1 hs hr i1.1 i2.1 (by omega)) ?_
 rintro _ w3 ⟨rfl, hs⟩
 refine R.ev rfl (E.move rfl) (R.ev rfl (E.extract rfl rfl) (R.ev rfl (E.extract rfl rfl) (R.ev rfl (E.assign rfl) (R.ev rfl (E.assign rfl) (R.done (X.keep [(2, _)] ⟨rfl, trivial⟩ (X.next (C.seq ?_))))))))
 refine C.region (R.ev rfl (E.move rfl) (R.ev rfl (E.assign rfl) (R.done (X.keep [(12, _)] ⟨rfl, trivial⟩ (X.next (C.ret (X.ret1 rfl rfl ?_)))))))
 exact ⟨rfl, hs⟩
theorem aumadj_any {bs s : Nat} (hf : auCmp K Rs fid fst cps lt) (a : Nat) (hs : Sat K w (row bs 3 [.int .i64 (s : Nat)] :: F :: Rs)) (hr : auA b m c0 d F) (ha0 : 0 < a) (ha : a + 1 < m) (hm : m ≤ 1000000000) (hsm : s ≤ 100) :
   Ret Tryz.prog 87 #[.slice (some ⟨b, 0, none⟩) m c0, .int .i64 (a : Nat), .pointer (some ⟨bs, 0, none⟩), .func (.func fid) fst.toArray cps.toArray] w fun r w' => r = .int .i64 ((medianAdjacent lt d a s).1 : Nat) ∧ Sat K w' (row bs 3 [.int .i64 ((medianAdjacent lt d a s).2 : Nat)] :: F :: Rs) := by
 refine Ret.enter (n := 18) (args := [.slice (some ⟨b, 0, none⟩) m c0, .int .i64 (a : Nat), .pointer (some ⟨bs, 0, none⟩), .func (.func fid) fst.toArray cps.toArray]) Tryz.func87 rfl rfl ?_
 refine C.keep [(0, _), (1, _), (2, _), (3, _)] ⟨rfl, rfl, rfl, rfl, trivial⟩ (C.seq (C.region (R.ev rfl (E.assign rfl) (R.done (X.keep [(0, _), (1, _), (2, _), (3, _)] ⟨rfl, rfl, rfl, rfl, trivial⟩ (X.next (C.seq (C.region ?_))))))))
 refine R.ev rfl (E.move rfl) (R.ev rfl (E.move rfl) ?_)
 refine R.ev rfl ((E.sub rfl rfl (by omega) (by omega)).isI (c := ((a - 1 : Nat) : Int)) (by omega)) ?_
 refine R.ev rfl (E.move rfl) (R.ev rfl (E.move rfl) ?_)
 refine R.ev rfl ((E.add rfl rfl (by omega) (by omega)).isI (c := ((a + 1 : Nat) : Int)) (by omega)) ?_
 refine R.ev rfl (E.move rfl) (R.ev rfl (E.move rfl) ?_)
 refine R.call ⟨_, _, Tryz.func88, rfl, by kernel_rfl⟩ rfl rfl (aumed_any hf (a - 1) a (a + 1) hs hr (by omega) (by omega) (by omega) hsm) ?_
 rintro _ w1 ⟨rfl, hs⟩
 refine R.ev rfl (E.assign rfl) (R.done (X.keep [(8, _)] ⟨rfl, trivial⟩ (X.next (C.ret (X.ret1 rfl rfl ?_)))))
 exact ⟨rfl, hs⟩
theorem aupiv_any (hf : auCmp K Rs fid fst cps lt) (a b0 : Nat) (hs : Sat K w (F :: Rs)) (hr : auA b m c0 d F) (hab : a < b0) (hb : b0 ≤ m) (hm : m ≤ 1000000000) :
   Ret Tryz.prog 75 #[.slice (some ⟨b, 0, none⟩) m c0, .int .i64 (a : Nat), .int .i64 (b0 : Nat), .func (.func fid) fst.toArray cps.toArray] w fun r w' => r = .tuple #[.int .i64 ((choosePivot lt d a b0).1 : Nat), .int .i64 (hintCode (choosePivot lt d a b0).2)] ∧ Sat K w' (F :: Rs) := by
 refine Ret.enter (n := 63) (args := [.slice (some ⟨b, 0, none⟩) m c0, .int .i64 (a : Nat), .int .i64 (b0 : Nat), .func (.func fid) fst.toArray cps.toArray]) Tryz.func75 rfl rfl ?_
 refine C.keep [(0, _), (1, _), (2, _), (3, _)] ⟨rfl, rfl, rfl, rfl, trivial⟩ (C.seq (C.region (R.ev rfl (E.assign rfl) (R.ev rfl (E.assign rfl) (R.done (X.keep [(0, _), (1, _), (2, _), (3, _)] ⟨rfl, rfl, rfl, rfl, trivial⟩ (X.next (C.seq ?_))))))))
 refine C.region (R.ev rfl (E.move rfl) (R.ev rfl (E.move rfl) ?_))
 refine R.ev rfl ((E.sub rfl rfl (by omega) (by omega)).isI (c := ((b0 - a : Nat) : Int)) (by omega)) ?_
 refine R.ev rfl (E.assign rfl) (R.done (X.keep [(0, _), (1, _), (3, _), (10, _)] ⟨rfl, rfl, rfl, rfl, trivial⟩ (X.next (C.seq (C.region ?_)))))
 refine R.salloc1 hs Tryz.zr3 rfl rfl ?_
 intro b11 w11 hs
 refine R.done (X.keep [(0, _), (1, _), (3, _), (10, _), (11, _)] ⟨rfl, rfl, rfl, rfl, rfl, trivial⟩ (X.next (C.seq (C.region (R.ev rfl (E.move rfl) (R.ev rfl (E.move rfl) ?_))))))
 refine R.ev rfl ((E.quo rfl rfl (by omega) (by omega) (by omega)).isI (c := (((b0 - a) / 4 : Nat) : Int)) (by omega)) ?_
 refine R.ev rfl ((E.mul rfl rfl (by omega) (by omega)).isI (c := (((b0 - a) / 4 * 1 : Nat) : Int)) (by omega)) ?_
 refine R.ev rfl ((E.add rfl rfl (by omega) (by omega)).isI (c := ((a + (b0 - a) / 4 * 1 : Nat) : Int)) (by omega)) ?_
 refine R.ev rfl (E.assign rfl) (R.done (X.keep [(0, _), (1, _), (3, _), (10, _), (11, _), (12, _)] ⟨rfl, rfl, rfl, rfl, rfl, rfl, trivial⟩ (X.next (C.seq (C.region (R.ev rfl (E.move rfl) (R.ev rfl (E.move rfl) ?_)))))))
 refine R.ev rfl ((E.quo rfl rfl (by omega) (by omega) (by omega)).isI (c := (((b0 - a) / 4 : Nat) : Int)) (by omega)) ?_
 refine R.ev rfl ((E.mul rfl rfl (by omega) (by omega)).isI (c := (((b0 - a) / 4 * 2 : Nat) : Int)) (by omega)) ?_
 refine R.ev rfl ((E.add rfl rfl (by omega) (by omega)).isI (c := ((a + (b0 - a) / 4 * 2 : Nat) : Int)) (by omega)) ?_
 refine R.ev rfl (E.assign rfl) (R.done (X.keep [(0, _), (1, _), (3, _), (10, _), (11, _), (12, _), (13, _)] ⟨rfl, rfl, rfl, rfl, rfl, rfl, rfl, trivial⟩ (X.next (C.seq (C.region (R.ev rfl (E.move rfl) (R.ev rfl (E.move rfl) ?_)))))))
 refine R.ev rfl ((E.quo rfl rfl (by omega) (by omega) (by omega)).isI (c := (((b0 - a) / 4 : Nat) : Int)) (by omega)) ?_
 refine R.ev rfl ((E.mul rfl rfl (by omega) (by omega)).isI (c := (((b0 - a) / 4 * 3 : Nat) : Int)) (by omega)) ?_
 refine R.ev rfl ((E.add rfl rfl (by omega) (by omega)).isI (c := ((a + (b0 - a) / 4 * 3 : Nat) : Int)) (by omega)) ?_
 refine R.ev rfl (E.assign rfl) (R.done (X.keep [(0, _), (3, _), (10, _), (11, _), (12, _), (13, _), (14, _)] ⟨rfl, rfl, rfl, rfl, rfl, rfl, rfl, trivial⟩ (X.next (C.seq (C.seq (C.region ?_))))))
 have hs : Sat K _ (row b11 3 [.int .i64 ((0 : Nat) : Int)] :: F :: Rs) := hs
 refine R.ev rfl (E.move rfl) (R.ev rfl (E.geq rfl rfl) (R.done (X.keep [(0, _), (3, _), (10, _), (11, _), (12, _), (13, _), (14, _), (34, _)] ⟨rfl, rfl, rfl, rfl, rfl, rfl, rfl, rfl, trivial⟩ (X.next ?_))))
 refine C.cut [(11, _)] (fun (_ : Unit) => [(13, .int .i64 ((rawPivot lt d a b0).1 : Nat))]) (fun _ w' => Sat K w' (row b11 3 [.int .i64 ((rawPivot lt d a b0).2 : Nat)] :: F :: Rs)) ⟨rfl, trivial⟩ ?_ ?_
 refine C.cdec rfl (fun h34 => ?_) (fun h34 => ?_)
 refine C.seq (C.seq (C.region (R.ev rfl (E.move rfl) (R.ev rfl (E.geq rfl rfl) (R.done (X.keep [(0, _), (3, _), (11, _), (12, _), (13, _), (14, _), (36, _)] ⟨rfl, rfl, rfl, rfl, rfl, rfl, rfl, trivial⟩ (X.next ?_)))))))
 refine C.cdec rfl (fun h36 => ?_) (fun h36 => ?_)
 refine C.seq (C.region (R.ev rfl (E.move rfl) (R.ev rfl (E.move rfl) (R.ev rfl (E.move rfl) ?_))))
 refine R.call ⟨_, _, Tryz.func87, rfl, by kernel_rfl⟩ rfl rfl (aumadj_any hf (a + (b0 - a) / 4 * 1) hs hr (by omega) (by omega) hm (by omega)) ?_
 rintro _ w8 ⟨rfl, hs⟩
 have n1 := medianAdjacent_count lt d (a + (b0 - a) / 4 * 1) 0
 have m1 := medianAdjacent_mem lt d (a + (b0 - a) / 4 * 1) 0
 refine R.ev rfl (E.assign rfl) (R.done (X.keep [(0, _), (3, _), (11, _), (12, _), (13, _), (14, _)] ⟨rfl, rfl, rfl, rfl, rfl, rfl, trivial⟩ (X.next (C.seq (C.region (R.ev rfl (E.move rfl) (R.ev rfl (E.move rfl) (R.ev rfl (E.move rfl) ?_))))))))
 refine R.call ⟨_, _, Tryz.func87, rfl, by kernel_rfl⟩ rfl rfl (aumadj_any hf (a + (b0 - a) / 4 * 2) hs hr (by omega) (by omega) hm (by omega)) ?_
 rintro _ w9 ⟨rfl, hs⟩
 have n2 := medianAdjacent_count lt d (a + (b0 - a) / 4 * 2) (medianAdjacent lt d (a + (b0 - a) / 4 * 1) 0).2
 have m2 := medianAdjacent_mem lt d (a + (b0 - a) / 4 * 2) (medianAdjacent lt d (a + (b0 - a) / 4 * 1) 0).2
 refine R.ev rfl (E.assign rfl) (R.done (X.keep [(0, _), (3, _), (11, _), (12, _), (13, _), (14, _)] ⟨rfl, rfl, rfl, rfl, rfl, rfl, trivial⟩ (X.next (C.region (R.ev rfl (E.move rfl) (R.ev rfl (E.move rfl) (R.ev rfl (E.move rfl) ?_)))))))
 refine R.call ⟨_, _, Tryz.func87, rfl, by kernel_rfl⟩ rfl rfl (aumadj_any hf (a + (b0 - a) / 4 * 3) hs hr (by omega) (by omega) hm (by omega)) ?_
 rintro _ w10 ⟨rfl, hs⟩
 have n3 := medianAdjacent_count lt d (a + (b0 - a) / 4 * 3) (medianAdjacent lt d (a + (b0 - a) / 4 * 2) (medianAdjacent lt d (a + (b0 - a) / 4 * 1) 0).2).2
 have m3 := medianAdjacent_mem lt d (a + (b0 - a) / 4 * 3) (medianAdjacent lt d (a + (b0 - a) / 4 * 2) (medianAdjacent lt d (a + (b0 - a) / 4 * 1) 0).2).2
 refine R.ev rfl (E.assign rfl) (R.done (X.keep [(0, _), (3, _), (11, _), (12, _), (13, _), (14, _)] ⟨rfl, rfl, rfl, rfl, rfl, rfl, trivial⟩ (X.next (C.region (R.ev rfl (E.move rfl) (R.ev rfl (E.move rfl) (R.ev rfl (E.move rfl) (R.ev rfl (E.move rfl) ?_))))))))
 refine R.ev rfl (E.move rfl) ?_
 refine R.call ⟨_, _, Tryz.func88, rfl, by kernel_rfl⟩ rfl rfl (aumed_any hf _ _ _ hs hr (by omega) (by omega) (by omega) (by omega)) ?_
 rintro _ w11 ⟨rfl, hs⟩
 refine R.ev rfl (E.assign rfl) (R.done (X.keep [(11, _), (13, _)] ⟨rfl, rfl, trivial⟩ ?_))
 first
   | (rw [rawPivot, if_pos (show b0 - a ≥ 8 by omega), if_pos (show b0 - a ≥ 50 by omega)]; exact X.cut (()) ⟨lkV rfl rfl, rfl, trivial⟩ hs)
   | (rw [rawPivot, if_pos (show b0 - a ≥ 8 by omega), if_neg (show ¬ b0 - a ≥ 50 by omega)]; exact X.cut (()) ⟨lkV rfl rfl, rfl, trivial⟩ hs)
   | (rw [rawPivot, if_neg (show ¬ b0 - a ≥ 8 by omega)]; exact X.cut (()) ⟨lkV rfl rfl, rfl, trivial⟩ hs)
 refine C.skip (X.next (C.region (R.ev rfl (E.move rfl) (R.ev rfl (E.move rfl) (R.ev rfl (E.move rfl) (R.ev rfl (E.move rfl) (R.ev rfl (E.move rfl) ?_)))))))
 refine R.call ⟨_, _, Tryz.func88, rfl, by kernel_rfl⟩ rfl rfl (aumed_any hf _ _ _ hs hr (by omega) (by omega) (by omega) (by omega)) ?_
 rintro _ w11 ⟨rfl, hs⟩
 refine R.ev rfl (E.assign rfl) (R.done (X.keep [(11, _), (13, _)] ⟨rfl, rfl, trivial⟩ ?_))
 first
   | (rw [rawPivot, if_pos (show b0 - a ≥ 8 by omega), if_pos (show b0 - a ≥ 50 by omega)]; exact X.cut (()) ⟨lkV rfl rfl, rfl, trivial⟩ hs)
   | (rw [rawPivot, if_pos (show b0 - a ≥ 8 by omega), if_neg (show ¬ b0 - a ≥ 50 by omega)]; exact X.cut (()) ⟨lkV rfl rfl, rfl, trivial⟩ hs)
   | (rw [rawPivot, if_neg (show ¬ b0 - a ≥ 8 by omega)]; exact X.cut (()) ⟨lkV rfl rfl, rfl, trivial⟩ hs)
 refine C.skip ?_
 first
   | (rw [rawPivot, if_pos (show b0 - a ≥ 8 by omega), if_pos (show b0 - a ≥ 50 by omega)]; exact X.cut (()) ⟨lkV rfl rfl, rfl, trivial⟩ hs)
   | (rw [rawPivot, if_pos (show b0 - a ≥ 8 by omega), if_neg (show ¬ b0 - a ≥ 50 by omega)]; exact X.cut (()) ⟨lkV rfl rfl, rfl, trivial⟩ hs)
   | (rw [rawPivot, if_neg (show ¬ b0 - a ≥ 8 by omega)]; exact X.cut (()) ⟨lkV rfl rfl, rfl, trivial⟩ hs)
 rintro _ w6 hs
 refine X.keep [(11, _), (13, _)] ⟨rfl, rfl, trivial⟩ (X.next (C.seq (C.region ?_)))
 refine R.ev rfl (E.load1 rfl Tryz.underlying3 rfl (by first | exact hs.ldc | exact hs.ld rfl | exact hs.ld (by assumption) | exact by assumption | exact At.cellC (by assumption))) ?_
 refine R.done (X.keep [(13, _), (55, _)] ⟨rfl, rfl, trivial⟩ (X.next (C.block (C.seq (C.region (R.ev rfl (E.eql rfl rfl) (R.ev rfl (E.assign rfl) (R.done ?_))))))))
 refine X.keep [(13, _), (55, _), (57, _)] ⟨rfl, rfl, rfl, trivial⟩ (X.next ?_)
 refine C.cdec rfl (fun h57 => ?_) (fun h57 => ?_)
 refine C.seq (C.region (R.ev rfl (E.move rfl) (R.ev rfl (E.assign rfl) (R.ev rfl (E.assign rfl) (R.done (X.keep [(8, _), (9, _)] ⟨rfl, rfl, trivial⟩ (X.next (C.ret ?_))))))))
 refine X.blockRet (X.ret2 rfl rfl rfl ?_)
 have e : hintOf (rawPivot lt d a b0).2 = .increasing := by rw [hintOf, if_pos (by omega)]
 rw [choosePivot_eq, e]; exact ⟨rfl, hs.to⟩
 refine C.seq (C.region (R.ev rfl (E.eql rfl rfl) (R.ev rfl (E.assign rfl) (R.done (X.keep [(13, _), (60, _)] ⟨rfl, rfl, trivial⟩ (X.next ?_))))))
 refine C.cdec rfl (fun h60 => ?_) (fun h60 => ?_)
 refine C.seq (C.region (R.ev rfl (E.move rfl) (R.ev rfl (E.assign rfl) (R.ev rfl (E.assign rfl) (R.done (X.keep [(8, _), (9, _)] ⟨rfl, rfl, trivial⟩ (X.next (C.ret ?_))))))))
 refine X.blockRet (X.ret2 rfl rfl rfl ?_)
 have e : hintOf (rawPivot lt d a b0).2 = .decreasing := by rw [hintOf, if_neg (by omega), if_pos (by omega)]
 rw [choosePivot_eq, e]; exact ⟨rfl, hs.to⟩
 refine C.seq (C.region (R.ev rfl (E.move rfl) (R.ev rfl (E.assign rfl) (R.ev rfl (E.assign rfl) (R.done (X.keep [(8, _), (9, _)] ⟨rfl, rfl, trivial⟩ (X.next (C.ret ?_))))))))
 refine X.blockRet (X.ret2 rfl rfl rfl ?_)
 have e : hintOf (rawPivot lt d a b0).2 = .unknown := by rw [hintOf, if_neg (by omega), if_neg (by omega)]
 rw [choosePivot_eq, e]; exact ⟨rfl, hs.to⟩
end
section
variable {K : Kn} {Rs : List Hl} {F : Hl} {w : World} {b m c0 : Nat} {d : Array (Vec 16)} {lt : (Vec 16) → (Vec 16) → Bool} {fid : FuncId} {fst cps : List Value}
open Go.Sort
theorem aubrk_any (a b0 : Nat) (cv : Value) (hs : Sat K w (F :: Rs)) (hr : auA b m c0 d F) (hab : a + 12 < b0) (hb : b0 ≤ m) (hm : m ≤ 1000000000) :
   Ret Tryz.prog 74 #[.slice (some ⟨b, 0, none⟩) m c0, .int .i64 (a : Nat), .int .i64 (b0 : Nat), cv] w fun _ w' => ∃ F', auA b m c0 (breakPatterns d a b0) F' ∧ Sat K w' (F' :: Rs) := by
 rw [break_bst (by omega)]
 obtain ⟨l, hl⟩ : ∃ l, l = b0 - a := ⟨_, rfl⟩
 rw [← hl]
 have hl2 : l ≤ 1000000000 ∧ 12 < l ∧ a + l = b0 := by omega
 have hp1 : 2 ^ bitsLen l ≤ 2 * l := two_pow_bitsLen_le (by omega)
 have hp0 : 0 < 2 ^ bitsLen l := Nat.two_pow_pos _
 refine Ret.enter (n := 67) (args := [.slice (some ⟨b, 0, none⟩) m c0, .int .i64 (a : Nat), .int .i64 (b0 : Nat), cv]) Tryz.func74 rfl rfl ?_
 refine C.keep [(0, _), (1, _), (2, _)] ⟨rfl, rfl, rfl, trivial⟩ (C.seq (C.region (R.ev rfl (E.move rfl) (R.ev rfl (E.move rfl) ?_))))
 refine R.ev rfl ((E.sub rfl rfl (by omega) (by omega)).isI (c := ((l : Nat) : Int)) (by omega)) ?_
 refine R.ev rfl (E.assign rfl) (R.done (X.keep [(0, _), (1, _), (8, _)] ⟨rfl, rfl, rfl, trivial⟩ (X.next (C.seq (C.region (R.ev rfl (E.move rfl) (R.ev rfl ((E.geq rfl rfl).isT (by omega)) (R.done ?_))))))))
 refine X.keep [(0, _), (1, _), (8, _), (17, _)] ⟨rfl, rfl, rfl, rfl, trivial⟩ (X.next (C.ctrue rfl (C.seq (C.region (R.ev rfl (E.move rfl) ?_)))))
 refine R.ev rfl ((E.conv rfl Tryz.underlying3 Tryz.underlying151).isI (c := (((UInt64.ofNat l).toNat : Nat) : Int)) (by rw [IntKind.wrap_u64, UInt64.toNat_ofNat']; omega)) ?_
 refine R.salloc1 hs Tryz.zr151 rfl rfl ?_
 intro b9 w9 hs
 refine R.cstore1 hs rfl rfl Tryz.sz151 (by first | decide | simp [*]) (by first | rfl | exact OneC.one | exact KRow.oneC' (by assumption)) ?_
 intro w2_3 hs
 try simp only [List.set_cons_zero, List.set_cons_succ] at hs
 refine R.done (X.keep [(0, _), (1, _), (8, _), (9, _)] ⟨rfl, rfl, rfl, rfl, trivial⟩ (X.next (C.seq (C.region (R.ev rfl (E.move rfl) ?_)))))
 refine R.call ⟨_, _, Tryz.func81, rfl, by kernel_rfl⟩ rfl rfl (pow2_any l (by omega) hs) ?_
 rintro _ w3 ⟨rfl, hs⟩
 refine R.ev rfl (E.assign rfl) (R.done (X.keep [(0, _), (1, _), (8, _), (9, _), (10, _)] ⟨rfl, rfl, rfl, rfl, rfl, trivial⟩ (X.next (C.seq (C.region (R.ev rfl (E.move rfl) (R.ev rfl (E.move rfl) ?_)))))))
 refine R.ev rfl ((E.quo rfl rfl (by omega) (by omega) (by omega)).isI (c := ((l / 4 : Nat) : Int)) (by omega)) ?_
 refine R.ev rfl ((E.mul rfl rfl (by omega) (by omega)).isI (c := ((l / 4 * 2 : Nat) : Int)) (by omega)) ?_
 refine R.ev rfl ((E.add rfl rfl (by omega) (by omega)).isI (c := ((a + l / 4 * 2 : Nat) : Int)) (by omega)) ?_
 refine R.ev rfl ((E.sub rfl rfl (by omega) (by omega)).isI (c := ((a + l / 4 * 2 - 1 + 0 : Nat) : Int)) (by omega)) ?_
 refine R.ev rfl (E.assign rfl) (R.done (X.keep [(0, _), (1, _), (8, _), (9, _), (10, _), (11, _)] ⟨rfl, rfl, rfl, rfl, rfl, rfl, trivial⟩ (X.next (C.block ?_))))
 refine C.loop (T := Nat × UInt64 × Array (Vec 16) × Hl) [(0, _), (1, _), (8, _), (9, _), (10, _)] (fun (k, _, _, _) => [(11, .int .i64 ((a + l / 4 * 2 - 1 + k : Nat) : Int))]) (fun (k, r, d1, F1) w' => bst a l d k = (r, d1) ∧ k ≤ 3 ∧ auA b m c0 d1 F1 ∧ Sat K w' (row b9 151 [.int .u64 (r.toNat : Nat)] :: F1 :: Rs)) (fun (k, _) => 3 - k) ((0, UInt64.ofNat l, d, F)) ⟨rfl, rfl, rfl, rfl, rfl, rfl, trivial⟩ ⟨rfl, by omega, hr, hs⟩ ?_
 rintro ⟨k, r, d1, F1⟩ w4 ⟨he, hk, r1, hs⟩
 refine C.keep [(0, _), (1, _), (8, _), (9, _), (10, _), (11, _)] ⟨rfl, rfl, rfl, rfl, rfl, rfl, trivial⟩ (C.seq (C.seq (C.region (R.ev rfl (E.move rfl) (R.ev rfl (E.move rfl) (R.ev rfl (E.move rfl) ?_))))))
 refine R.ev rfl ((E.quo rfl rfl (by omega) (by omega) (by omega)).isI (c := ((l / 4 : Nat) : Int)) (by omega)) ?_
 refine R.ev rfl ((E.mul rfl rfl (by omega) (by omega)).isI (c := ((l / 4 * 2 : Nat) : Int)) (by omega)) ?_
 refine R.ev rfl ((E.add rfl rfl (by omega) (by omega)).isI (c := ((a + l / 4 * 2 : Nat) : Int)) (by omega)) ?_
 refine R.ev rfl ((E.add rfl rfl (by omega) (by omega)).isI (c := ((a + l / 4 * 2 + 1 : Nat) : Int)) (by omega)) ?_
 refine R.ev rfl (E.leq rfl rfl) (R.done (X.keep [(0, _), (1, _), (8, _), (9, _), (10, _), (11, _), (35, _)] ⟨rfl, rfl, rfl, rfl, rfl, rfl, rfl, trivial⟩ (X.next ?_)))
 refine C.cdec rfl (fun h35 => ?_) (fun h35 => ?_)
 have hrl := r.toNat_lt
 have hol := other_lt (r := xorNext r) (length := l) (by omega)
 have hxl := (xorNext r).toNat_lt
 have hand := and_lt' (x := (xorNext r).toNat) hp0
 refine C.skip (X.next (C.seq (C.block (C.seq (C.region ?_)))))
 refine R.call ⟨_, _, Tryz.func82, rfl, by kernel_rfl⟩ rfl rfl (next_any' r.toNat (by omega) hs) ?_
 rintro _ w7 ⟨rfl, hs⟩
 rw [← xorNext_toNat] at hs ⊢
 refine R.ev rfl (E.move rfl) ?_
 refine R.ev rfl ((E.subW rfl rfl).isI (c := ((2 ^ bitsLen l - 1 : Nat) : Int)) (by rw [IntKind.wrap_u64]; generalize (2 ^ bitsLen l : Nat) = q at hp0 hp1 ⊢; omega)) ?_
 refine R.ev rfl ((E.and rfl rfl).isI (c := (((xorNext r).toNat &&& (2 ^ bitsLen l - 1) : Nat) : Int)) (and64 (by omega) (by generalize (2 ^ bitsLen l : Nat) = q at hp0 hp1 ⊢; omega))) ?_
 refine R.ev rfl ((E.conv rfl Tryz.underlying112 Tryz.underlying3).isI (c := (((xorNext r).toNat &&& (2 ^ bitsLen l - 1) : Nat) : Int)) (wrap_i64 (by omega) (by generalize ((xorNext r).toNat &&& (2 ^ bitsLen l - 1)) = z at hand ⊢; generalize (2 ^ bitsLen l : Nat) = q at *; omega))) ?_
 refine R.ev rfl (E.assign rfl) (R.done (X.keep [(0, _), (1, _), (8, _), (9, _), (10, _), (11, _), (12, _)] ⟨rfl, rfl, rfl, rfl, rfl, rfl, rfl, trivial⟩ (X.next (C.seq (C.seq (C.region (R.ev rfl (E.move rfl) (R.ev rfl (E.move rfl) ?_))))))))
 refine R.ev rfl (E.geq rfl rfl) (R.done (X.keep [(0, _), (1, _), (8, _), (9, _), (10, _), (11, _), (12, _), (45, _)] ⟨rfl, rfl, rfl, rfl, rfl, rfl, rfl, rfl, trivial⟩ (X.next ?_)))
 refine C.cut [(0, _), (1, _), (8, _), (9, _), (10, _), (11, _)] (fun (_ : Unit) => [(12, .int .i64 ((other l (xorNext r) : Nat) : Int))]) (fun _ w' => Sat K w' (row b9 151 [.int .u64 ((xorNext r).toNat : Nat)] :: F1 :: Rs)) ⟨rfl, rfl, rfl, rfl, rfl, rfl, trivial⟩ ?_ ?_
 refine C.cdec rfl (fun h45 => ?_) (fun h45 => ?_)
 refine C.region (R.ev rfl (E.move rfl) (R.ev rfl (E.move rfl) ?_))
 refine R.ev rfl ((E.sub rfl rfl (by omega) (by generalize ((xorNext r).toNat &&& (2 ^ bitsLen l - 1)) = z at hand ⊢; generalize (2 ^ bitsLen l : Nat) = q at *; omega)).isI (c := ((other l (xorNext r) : Nat) : Int)) (by rw [other, if_pos (by omega)]; omega)) ?_
 refine R.ev rfl (E.assign rfl) (R.done (X.keep [(0, _), (1, _), (8, _), (9, _), (10, _), (11, _), (12, _)] ⟨rfl, rfl, rfl, rfl, rfl, rfl, rfl, trivial⟩ ?_))
 refine X.cut (()) ⟨lkV rfl ?_, rfl, rfl, rfl, rfl, rfl, rfl, trivial⟩ ?_
 · first
     | rfl
     | rw [other, if_neg (by omega)]
 exact hs
 refine C.skip ?_
 refine X.cut (()) ⟨lkV rfl ?_, rfl, rfl, rfl, rfl, rfl, rfl, trivial⟩ ?_
 · first
     | rfl
     | rw [other, if_neg (by omega)]
 exact hs
 rintro _ w8 hs
 refine X.keep [(0, _), (1, _), (8, _), (9, _), (10, _), (11, _), (12, _)] ⟨rfl, rfl, rfl, rfl, rfl, rfl, rfl, trivial⟩ (X.next ?_)
 refine C.drawn (SatS hs) ([11, 15], [0, 1, 2, 3, 4, 5, 6, 7, 8, 9, 10, 12, 13, 14, 16, 18]) (by kernel_rfl) ?_
 have hs := hs.drew
 have hnext := bst_succ he
 generalize other l (xorNext r) = ot at hol hnext
 have A1 := r1.el (K := K) (Hs := row b9 151 [.int .u64 ((xorNext r).toNat : Nat)] :: F1 :: Rs) (i := a + l / 4 * 2 - 1 + k) (by omega)
 have A2 := r1.el (K := K) (Hs := row b9 151 [.int .u64 ((xorNext r).toNat : Nat)] :: F1 :: Rs) (i := a + ot) (by omega)
 refine D.evP 0 rfl (by kernel_rfl) rfl (fun _ => hs.to) (fun _ => E.move rfl) (D.evP 1 rfl (by kernel_rfl) rfl (fun _ => hs.to) (fun _ => E.move rfl) (D.evP 2 rfl (by kernel_rfl) rfl (fun _ => hs.to) (fun _ => E.move rfl) (D.evP 3 rfl (by kernel_rfl) rfl (fun _ => hs.to) (fun _ => E.move rfl) (D.evP 4 rfl (by kernel_rfl) rfl (fun _ => hs.to) (fun _ => E.move rfl) ?_))))
 refine D.evP 5 rfl (by kernel_rfl) rfl (fun _ => hs.to) (fun _ => (E.add rfl rfl (by omega) (by omega)).isI (c := ((a + ot : Nat) : Int)) (by omega)) ?_
 refine D.evP 6 rfl (by kernel_rfl) rfl (fun _ => hs.to) (fun _ => E.move rfl) (D.evP 7 rfl (by kernel_rfl) rfl (fun _ => hs.to) (fun _ => E.move rfl) (D.evP 8 rfl (by kernel_rfl) rfl (fun _ => hs.to) (fun _ => E.move rfl) ?_))
 refine D.evP 9 rfl (by kernel_rfl) rfl (fun _ => hs.to) (fun _ => (E.add rfl rfl (by omega) (by omega)).isI (c := ((a + ot : Nat) : Int)) (by omega)) ?_
 refine D.evP 10 rfl (by kernel_rfl) rfl (fun _ => hs.to) (fun _ => E.indexAddr rfl rfl Tryz.underlying58 Tryz.sz54 rfl (by first | omega | decide)) ?_
 refine D.evP 12 rfl (by kernel_rfl) rfl (fun _ => hs.to) (fun _ => E.move rfl) (D.evP 13 rfl (by kernel_rfl) rfl (fun _ => hs.to) (fun _ => E.move rfl) ?_)
 refine D.evP 14 rfl (by kernel_rfl) rfl (fun _ => hs.to) (fun _ => E.indexAddr rfl rfl Tryz.underlying58 Tryz.sz54 rfl (by first | omega | decide)) ?_
 refine D.ev 11 rfl (by kernel_rfl) rfl hs.to (fun _ hS => E.loadRowC rfl Tryz.underlying54 rfl Tryz.sz54 ⟨A2 _ hS, Enc.len _⟩) (D.ev 15 rfl (by kernel_rfl) rfl hs.to (fun _ hS => E.loadRowC rfl Tryz.underlying54 rfl Tryz.sz54 ⟨A1 _ hS, Enc.len _⟩) ?_)
 refine D.evP 16 rfl (by kernel_rfl) rfl (fun _ => hs.to) (fun _ => E.indexAddr rfl rfl Tryz.underlying58 Tryz.sz54 rfl (by first | omega | decide)) ?_
 refine D.act 17 rfl (by kernel_rfl) (R.dset (a + l / 4 * 2 - 1 + k) hs (r1) rfl rfl Tryz.sz54 (by omega) ?_)
 intro w10a F10a r10a hs
 refine D.backT (by kernel_rfl) ?_
 refine D.evP 18 rfl (by kernel_rfl) rfl (np (by kernel_rfl)) (fun _ => E.indexAddr rfl rfl Tryz.underlying58 Tryz.sz54 rfl (by first | omega | decide)) ?_
 refine D.act 19 rfl (by kernel_rfl) (R.dset (a + ot) hs r10a rfl rfl Tryz.sz54 (by omega) ?_)
 intro w10 F10 r10 hs
 refine D.backT (by kernel_rfl) (D.done rfl (by kernel_rfl) (X.keep [(0, _), (1, _), (8, _), (9, _), (10, _), (11, _)] ⟨rfl, rfl, rfl, rfl, rfl, rfl, trivial⟩ (X.blockNormal (X.next (C.region (R.ev rfl (E.move rfl) ?_))))))
 refine R.ev rfl ((E.add rfl rfl (by omega) (by omega)).isI (c := ((a + l / 4 * 2 - 1 + (k + 1) : Nat) : Int)) (by omega)) ?_
 refine R.ev rfl (E.assign rfl) (R.done (X.keep [(0, _), (1, _), (8, _), (9, _), (10, _), (11, _)] ⟨rfl, rfl, rfl, rfl, rfl, rfl, trivial⟩ ?_))
 exact X.again (k + 1, xorNext r, _, F10) ⟨rfl, rfl, rfl, rfl, rfl, rfl, trivial⟩ ⟨hnext, by omega, r10, hs⟩ (by show _ - _ < _ - _; omega)
 refine C.exit (X.thenExit (X.loopExit (X.blockExit (X.bodyNormal (X.ret0 rfl ?_)))))
 rw [show k = 3 by omega] at he
 exact ⟨F1, by rw [he]; exact r1, hs.to⟩
theorem aupdq_any (hf : auCmp K Rs fid fst cps lt) (hm : m ≤ 1000000000) : ∀ (n a b0 lim : Nat) (d : Array (Vec 16)) (F : Hl) (w : World), b0 - a = n → Sat K w (F :: Rs) → auA b m c0 d F → a ≤ b0 → b0 ≤ m → lim ≤ 1000 →
   Ret Tryz.prog 53 #[.slice (some ⟨b, 0, none⟩) m c0, .int .i64 (a : Nat), .int .i64 (b0 : Nat), .int .i64 (lim : Nat), .func (.func fid) fst.toArray cps.toArray] w fun _ w' => ∃ F', auA b m c0 (pdq lt d a b0 lim true true) F' ∧ Sat K w' (F' :: Rs) := by
 intro n
 induction n using Nat.strongRecOn with
 | ind n ih =>
 intro a b0 lim d F w hn hs hr hab hb hlim
 refine Ret.enter (n := 148) (args := [.slice (some ⟨b, 0, none⟩) m c0, .int .i64 (a : Nat), .int .i64 (b0 : Nat), .int .i64 (lim : Nat), .func (.func fid) fst.toArray cps.toArray]) Tryz.func53 rfl rfl ?_
 refine C.keep [(0, _), (1, _), (2, _), (3, _), (4, _)] ⟨rfl, rfl, rfl, rfl, rfl, trivial⟩ (C.seq (C.region (R.ev rfl (E.assign rfl) (R.done (X.keep [(0, _), (1, _), (2, _), (3, _), (4, _), (10, _)] ⟨rfl, rfl, rfl, rfl, rfl, rfl, trivial⟩ (X.next (C.seq (C.region ?_))))))))
 refine R.ev rfl (E.assign rfl) (R.done (X.keep [(0, _), (1, _), (2, _), (3, _), (4, _), (10, _), (11, _)] ⟨rfl, rfl, rfl, rfl, rfl, rfl, rfl, trivial⟩ (X.next (C.block ?_))))
 refine C.loop (T := Nat × Nat × Nat × Bool × Bool × Array (Vec 16) × Hl) [(0, _), (4, _)] (fun (a1, b1, l1, wb, wp, _, _) => [(1, .int .i64 (a1 : Nat)), (2, .int .i64 (b1 : Nat)), (3, .int .i64 (l1 : Nat)), (10, .bool wb), (11, .bool wp)]) (fun (a1, b1, l1, wb, wp, d1, F1) w' => pdq lt d1 a1 b1 l1 wb wp = pdq lt d a b0 lim true true ∧ a1 ≤ b1 ∧ b1 ≤ m ∧ b1 - a1 ≤ b0 - a ∧ l1 ≤ 1000 ∧ auA b m c0 d1 F1 ∧ Sat K w' (F1 :: Rs)) (fun (a1, b1, _) => b1 - a1) ((a, b0, lim, true, true, d, F)) ⟨rfl, rfl, rfl, rfl, rfl, rfl, rfl, trivial⟩ ⟨rfl, hab, hb, by omega, hlim, hr, hs⟩ ?_
 rintro ⟨a1, b1, l1, wb, wp, d1, F1⟩ w1 ⟨he, hab1, hb1, hsm, hl1, r1, hs⟩
 obtain ⟨rr, hR⟩ : ∃ rr, rd lt d1 a1 b1 l1 wb wp = rr := ⟨_, rfl⟩
 have e1 : rr.d1 = if !wb then breakPatterns d1 a1 b1 else d1 := by rw [← hR]; rfl
 have e2 : rr.lim = if !wb then l1 - 1 else l1 := by rw [← hR]; rfl
 have e3 : rr.c = choosePivot lt rr.d1 a1 b1 := by rw [← hR]; rfl
 have e4 : rr.d2 = if rr.c.2 = .decreasing then reverseRange rr.d1 a1 b1 else rr.d1 := by rw [← hR]; rfl
 have e5 : rr.pivot = if rr.c.2 = .decreasing then (b1 - 1) - (rr.c.1 - a1) else rr.c.1 := by rw [← hR]; rfl
 have e6 : rr.hint = if rr.c.2 = .decreasing then Hint.increasing else rr.c.2 := by rw [← hR]; rfl
 have e7 : rr.pi = if wb && wp && rr.hint = .increasing then partialInsertionSort lt rr.d2 a1 b1 else (rr.d2, false) := by rw [← hR]; rfl
 refine C.keep [(0, _), (1, _), (2, _), (3, _), (4, _), (10, _), (11, _)] ⟨rfl, rfl, rfl, rfl, rfl, rfl, rfl, trivial⟩ (C.block (C.seq (C.region (R.ev rfl (E.move rfl) (R.ev rfl (E.move rfl) ?_)))))
 refine R.ev rfl ((E.sub rfl rfl (by omega) (by omega)).isI (c := ((b1 - a1 : Nat) : Int)) (by omega)) ?_
 refine R.ev rfl (E.assign rfl) (R.done (X.keep [(0, _), (1, _), (2, _), (3, _), (4, _), (10, _), (11, _), (12, _)] ⟨rfl, rfl, rfl, rfl, rfl, rfl, rfl, rfl, trivial⟩ (X.next (C.seq (C.seq (C.region (R.ev rfl (E.move rfl) (R.ev rfl (E.leq rfl rfl) ?_))))))))
 refine R.done (X.keep [(0, _), (1, _), (2, _), (3, _), (4, _), (10, _), (11, _), (12, _), (25, _)] ⟨rfl, rfl, rfl, rfl, rfl, rfl, rfl, rfl, rfl, trivial⟩ (X.next ?_))
 refine C.cdec rfl (fun h25 => ?_) (fun h25 => ?_)
 refine C.seq (C.region (R.ev rfl (E.move rfl) (R.ev rfl (E.move rfl) (R.ev rfl (E.move rfl) (R.ev rfl (E.move rfl) ?_)))))
 refine R.call ⟨_, _, Tryz.func72, rfl, by kernel_rfl⟩ rfl rfl (auins_any hf a1 b1 hs r1 (by omega) (by omega) hm) ?_
 rintro _ w4 ⟨F4, r4, hs⟩
 refine R.done (X.keep [] trivial (X.next (C.ret (X.thenRet (X.blockRet (X.loopRet (X.blockRet (X.ret0 rfl ?_))))))))
 exact ⟨F4, by rw [← he, pdq_small (by omega)]; exact r4, hs⟩
 have h12 : ¬ b1 - a1 ≤ 12 := by omega
 refine C.skip (X.next (C.seq (C.seq (C.region (R.ev rfl (E.move rfl) (R.ev rfl (E.eql rfl rfl) (R.done (X.keep [(0, _), (1, _), (2, _), (3, _), (4, _), (10, _), (11, _), (12, _), (32, _)] ⟨rfl, rfl, rfl, rfl, rfl, rfl, rfl, rfl, rfl, trivial⟩ ?_))))))))
 refine X.next ?_
 refine C.cdec rfl (fun h32 => ?_) (fun h32 => ?_)
 refine C.seq (C.region (R.ev rfl (E.move rfl) (R.ev rfl (E.move rfl) (R.ev rfl (E.move rfl) (R.ev rfl (E.move rfl) ?_)))))
 refine R.call ⟨_, _, Tryz.func73, rfl, by kernel_rfl⟩ rfl rfl (auheap_any hf a1 b1 hs r1 (by omega) (by omega) hm) ?_
 rintro _ w6 ⟨F6, r6, hs⟩
 refine R.done (X.keep [] trivial (X.next (C.ret (X.thenRet (X.blockRet (X.loopRet (X.blockRet (X.ret0 rfl ?_))))))))
 exact ⟨F6, by rw [← he, pdq_heap h12 (by omega)]; exact r6, hs⟩
 have hl0 : ¬ l1 = 0 := by omega
 refine C.skip (X.next (C.seq (C.seq (C.region ?_))))
 have hdone := pdq_done (lt := lt) (d := d1) (a := a1) (b := b1) (limit := l1) (wb := wb) (wp := wp) h12 hl0
 have heq := pdq_eq (lt := lt) (d := d1) (a := a1) (b := b1) (limit := l1) (wb := wb) (wp := wp) h12 hl0
 have hleft := pdq_left (lt := lt) (d := d1) (a := a1) (b := b1) (limit := l1) (wb := wb) (wp := wp) h12 hl0
 have hright := pdq_right (lt := lt) (d := d1) (a := a1) (b := b1) (limit := l1) (wb := wb) (wp := wp) h12 hl0
 rw [hR, he] at hdone heq hleft hright
 refine R.ev rfl (E.move rfl) ?_
 refine R.ev rfl ((E.not rfl).isB (c := !wb) rfl) ?_
 refine R.done (X.keep [(0, _), (1, _), (2, _), (3, _), (4, _), (10, _), (11, _), (12, _), (39, _)] ⟨rfl, rfl, rfl, rfl, rfl, rfl, rfl, rfl, rfl, trivial⟩ (X.next ?_))
 refine C.cut [(0, _), (1, _), (2, _), (4, _), (10, _), (11, _), (12, _)] (fun (_ : Hl) => [(3, .int .i64 (rr.lim : Nat))]) (fun F2 w' => auA b m c0 rr.d1 F2 ∧ Sat K w' (F2 :: Rs)) ⟨rfl, rfl, rfl, rfl, rfl, rfl, rfl, trivial⟩ ?_ ?_
 refine C.cbool rfl (fun h39 => ?_) (fun h39 => ?_)
 refine C.seq (C.region (R.ev rfl (E.move rfl) (R.ev rfl (E.move rfl) (R.ev rfl (E.move rfl) (R.ev rfl (E.move rfl) ?_)))))
 refine R.call ⟨_, _, Tryz.func74, rfl, by kernel_rfl⟩ rfl rfl (aubrk_any a1 b1 _ hs r1 (by omega) (by omega) hm) ?_
 rintro _ w8 ⟨F8, r8, hs⟩
 refine R.done (X.keep [(0, _), (1, _), (2, _), (3, _), (4, _), (10, _), (11, _), (12, _)] ⟨rfl, rfl, rfl, rfl, rfl, rfl, rfl, rfl, trivial⟩ (X.next (C.region (R.ev rfl (E.move rfl) ?_))))
 refine R.ev rfl ((E.sub rfl rfl (by omega) (by omega)).isI (c := ((l1 - 1 : Nat) : Int)) (by omega)) ?_
 refine R.ev rfl (E.assign rfl) (R.done (X.keep [(0, _), (1, _), (2, _), (3, _), (4, _), (10, _), (11, _), (12, _)] ⟨rfl, rfl, rfl, rfl, rfl, rfl, rfl, rfl, trivial⟩ ?_))
 first
   | (rw [h39, if_pos rfl] at e1 e2; rw [e2]; exact X.cut (F8) ⟨lkV rfl rfl, rfl, rfl, rfl, rfl, rfl, rfl, rfl, trivial⟩ ⟨by rw [e1]; exact r8, hs⟩)
   | (rw [h39, if_neg Bool.false_ne_true] at e1 e2; rw [e2]; exact X.cut (F1) ⟨lkV rfl rfl, rfl, rfl, rfl, rfl, rfl, rfl, rfl, trivial⟩ ⟨by rw [e1]; exact r1, hs⟩)
 refine C.skip ?_
 first
   | (rw [h39, if_pos rfl] at e1 e2; rw [e2]; exact X.cut (F8) ⟨lkV rfl rfl, rfl, rfl, rfl, rfl, rfl, rfl, rfl, trivial⟩ ⟨by rw [e1]; exact r8, hs⟩)
   | (rw [h39, if_neg Bool.false_ne_true] at e1 e2; rw [e2]; exact X.cut (F1) ⟨lkV rfl rfl, rfl, rfl, rfl, rfl, rfl, rfl, rfl, trivial⟩ ⟨by rw [e1]; exact r1, hs⟩)
 rintro F2 w8 ⟨r2, hs⟩
 refine X.keep [(0, _), (1, _), (2, _), (3, _), (4, _), (10, _), (11, _), (12, _)] ⟨rfl, rfl, rfl, rfl, rfl, rfl, rfl, rfl, trivial⟩ (X.next (C.seq (C.region ?_)))
 have hlim2 : rr.lim ≤ 1000 := by rw [e2]; split <;> omega
 have hpv := choosePivot_holds lt rr.d1 a1 b1 (by omega)
 refine R.ev rfl (E.move rfl) (R.ev rfl (E.move rfl) (R.ev rfl (E.move rfl) (R.ev rfl (E.move rfl) ?_)))
 refine R.call ⟨_, _, Tryz.func75, rfl, by kernel_rfl⟩ rfl rfl (aupiv_any hf a1 b1 hs r2 (by omega) (by omega) hm) ?_
 rintro _ w10 ⟨rfl, hs⟩
 rw [← e3] at hpv ⊢
 have hpr : a1 ≤ rr.pivot ∧ rr.pivot < b1 := by rw [e5]; split <;> omega
 refine R.ev rfl (E.move rfl) (R.ev rfl (E.extract rfl rfl) (R.ev rfl (E.extract rfl rfl) (R.ev rfl (E.assign rfl) (R.ev rfl (E.assign rfl) (R.done (X.keep [(0, _), (1, _), (2, _), (3, _), (4, _), (10, _), (11, _), (12, _), (13, _), (14, _)] ⟨rfl, rfl, rfl, rfl, rfl, rfl, rfl, rfl, rfl, rfl, trivial⟩ (X.next (C.seq ?_))))))))
 refine C.seq (C.region (R.ev rfl (E.move rfl) ?_))
 refine R.ev rfl ((E.eql rfl rfl).isB (c := decide (rr.c.2 = Hint.decreasing)) (by cases rr.c.2 <;> rfl)) ?_
 refine R.done (X.keep [(0, _), (1, _), (2, _), (3, _), (4, _), (10, _), (11, _), (12, _), (13, _), (14, _), (56, _)] ⟨rfl, rfl, rfl, rfl, rfl, rfl, rfl, rfl, rfl, rfl, rfl, trivial⟩ (X.next ?_))
 refine C.cut [(0, _), (1, _), (2, _), (3, _), (4, _), (10, _), (11, _), (12, _)] (fun (_ : Hl) => [(13, .int .i64 (rr.pivot : Nat)), (14, .int .i64 (hintCode rr.hint))]) (fun F3 w' => auA b m c0 rr.d2 F3 ∧ Sat K w' (F3 :: Rs)) ⟨rfl, rfl, rfl, rfl, rfl, rfl, rfl, rfl, trivial⟩ ?_ ?_
 refine C.cdec rfl (fun h56 => ?_) (fun h56 => ?_)
 refine C.seq (C.region (R.ev rfl (E.move rfl) (R.ev rfl (E.move rfl) (R.ev rfl (E.move rfl) (R.ev rfl (E.move rfl) ?_)))))
 refine R.call ⟨_, _, Tryz.func76, rfl, by kernel_rfl⟩ rfl rfl (aurev_any a1 b1 _ hs r2 (by omega) (by omega) hm) ?_
 rintro _ w12 ⟨F12, r12, hs⟩
 refine R.done (X.keep [(0, _), (1, _), (2, _), (3, _), (4, _), (10, _), (11, _), (12, _), (13, _)] ⟨rfl, rfl, rfl, rfl, rfl, rfl, rfl, rfl, rfl, trivial⟩ (X.next (C.seq (C.region (R.ev rfl (E.move rfl) ?_)))))
 refine R.ev rfl ((E.sub rfl rfl (by omega) (by omega)).isI (c := ((b1 - 1 : Nat) : Int)) (by omega)) ?_
 refine R.ev rfl (E.move rfl) (R.ev rfl (E.move rfl) ?_)
 refine R.ev rfl ((E.sub rfl rfl (by omega) (by omega)).isI (c := ((rr.c.1 - a1 : Nat) : Int)) (by omega)) ?_
 refine R.ev rfl ((E.sub rfl rfl (by omega) (by omega)).isI (c := ((b1 - 1 - (rr.c.1 - a1) : Nat) : Int)) (by omega)) ?_
 refine R.ev rfl (E.assign rfl) (R.done (X.keep [(0, _), (1, _), (2, _), (3, _), (4, _), (10, _), (11, _), (12, _), (13, _)] ⟨rfl, rfl, rfl, rfl, rfl, rfl, rfl, rfl, rfl, trivial⟩ (X.next (C.region (R.ev rfl (E.assign rfl) (R.done (X.keep [(0, _), (1, _), (2, _), (3, _), (4, _), (10, _), (11, _), (12, _), (13, _), (14, _)] ⟨rfl, rfl, rfl, rfl, rfl, rfl, rfl, rfl, rfl, rfl, trivial⟩ ?_)))))))
 first
   | (rw [if_pos h56] at e4 e5 e6; rw [e5, e6]; exact X.cut (F12) ⟨lkV rfl rfl, lkV rfl rfl, rfl, rfl, rfl, rfl, rfl, rfl, rfl, rfl, trivial⟩ ⟨by rw [e4]; exact r12, hs⟩)
   | (rw [if_neg h56] at e4 e5 e6; rw [e5, e6]; exact X.cut (F2) ⟨lkV rfl rfl, lkV rfl rfl, rfl, rfl, rfl, rfl, rfl, rfl, rfl, rfl, trivial⟩ ⟨by rw [e4]; exact r2, hs⟩)
 refine C.skip ?_
 first
   | (rw [if_pos h56] at e4 e5 e6; rw [e5, e6]; exact X.cut (F12) ⟨lkV rfl rfl, lkV rfl rfl, rfl, rfl, rfl, rfl, rfl, rfl, rfl, rfl, trivial⟩ ⟨by rw [e4]; exact r12, hs⟩)
   | (rw [if_neg h56] at e4 e5 e6; rw [e5, e6]; exact X.cut (F2) ⟨lkV rfl rfl, lkV rfl rfl, rfl, rfl, rfl, rfl, rfl, rfl, rfl, rfl, trivial⟩ ⟨by rw [e4]; exact r2, hs⟩)
 rintro F3 w14 ⟨r3, hs⟩
 refine X.keep [(0, _), (1, _), (2, _), (3, _), (4, _), (10, _), (11, _), (12, _), (13, _), (14, _)] ⟨rfl, rfl, rfl, rfl, rfl, rfl, rfl, rfl, rfl, rfl, trivial⟩ (X.next (C.seq (C.seq ?_)))
 refine C.cut [(0, _), (1, _), (2, _), (3, _), (4, _), (10, _), (11, _), (12, _), (13, _)] (fun (_ : Unit) => [(75, .bool (wb && wp && decide (rr.hint = Hint.increasing)))]) (fun _ w' => Sat K w' (F3 :: Rs)) ⟨rfl, rfl, rfl, rfl, rfl, rfl, rfl, rfl, rfl, trivial⟩ ?_ ?_
 refine C.region (R.ev rfl (E.move rfl) (R.ev rfl (E.move rfl) ?_))
 refine R.split 69 rfl (fun h69 => ?_) (fun h69 => ?_)
 refine R.gyes rfl rfl (R.ev rfl (E.move rfl) (R.ev rfl (E.pickT rfl rfl) (R.ev rfl (E.move rfl) ?_)))
 refine R.split 72 rfl (fun h72 => ?_) (fun h72 => ?_)
 refine R.gyes rfl rfl (R.ev rfl (E.move rfl) (R.gyes rfl rfl ?_))
 refine R.ev rfl ((E.eql rfl rfl).isB (c := decide (rr.hint = Hint.increasing)) (by cases rr.hint <;> rfl)) ?_
 refine R.ev rfl (E.pickT rfl rfl) (R.done (X.keep [(0, _), (1, _), (2, _), (3, _), (4, _), (10, _), (11, _), (12, _), (13, _), (75, _)] ⟨rfl, rfl, rfl, rfl, rfl, rfl, rfl, rfl, rfl, rfl, trivial⟩ ?_))
 refine X.cut (()) ⟨lkV rfl ?_, rfl, rfl, rfl, rfl, rfl, rfl, rfl, rfl, rfl, trivial⟩ ?_
 · first
     | (rw [h69, h72]; rfl)
     | (rw [h69]; rfl)
 exact hs
 refine R.gskip rfl rfl rfl (R.gskip rfl rfl rfl (R.ev rfl (E.pickF rfl rfl) (R.done (X.keep [(0, _), (1, _), (2, _), (3, _), (4, _), (10, _), (11, _), (12, _), (13, _), (75, _)] ⟨rfl, rfl, rfl, rfl, rfl, rfl, rfl, rfl, rfl, rfl, trivial⟩ ?_))))
 refine X.cut (()) ⟨lkV rfl ?_, rfl, rfl, rfl, rfl, rfl, rfl, rfl, rfl, rfl, trivial⟩ ?_
 · first
     | (rw [h69, h72]; rfl)
     | (rw [h69]; rfl)
 exact hs
 refine R.gskip rfl rfl rfl (R.ev rfl (E.pickF rfl rfl) (R.ev rfl (E.move rfl) (R.gskip rfl rfl rfl (R.gskip rfl rfl rfl (R.ev rfl (E.pickF rfl rfl) (R.done (X.keep [(0, _), (1, _), (2, _), (3, _), (4, _), (10, _), (11, _), (12, _), (13, _), (75, _)] ⟨rfl, rfl, rfl, rfl, rfl, rfl, rfl, rfl, rfl, rfl, trivial⟩ ?_)))))))
 refine X.cut (()) ⟨lkV rfl ?_, rfl, rfl, rfl, rfl, rfl, rfl, rfl, rfl, rfl, trivial⟩ ?_
 · first
     | (rw [h69, h72]; rfl)
     | (rw [h69]; rfl)
 exact hs
 rintro _ w15 hs
 refine X.keep [(0, _), (1, _), (2, _), (3, _), (4, _), (10, _), (11, _), (12, _), (13, _), (75, _)] ⟨rfl, rfl, rfl, rfl, rfl, rfl, rfl, rfl, rfl, rfl, trivial⟩ (X.next ?_)
 refine C.cut [(0, _), (1, _), (2, _), (3, _), (4, _), (10, _), (11, _), (12, _), (13, _)] (fun (_ : Hl) => []) (fun F4 w' => rr.pi.2 = false ∧ auA b m c0 rr.pi.1 F4 ∧ Sat K w' (F4 :: Rs)) ⟨rfl, rfl, rfl, rfl, rfl, rfl, rfl, rfl, rfl, trivial⟩ ?_ ?_
 refine C.cbool rfl (fun h75 => ?_) (fun h75 => ?_)
 rw [if_pos h75] at e7
 refine C.seq (C.region (R.ev rfl (E.move rfl) (R.ev rfl (E.move rfl) (R.ev rfl (E.move rfl) (R.ev rfl (E.move rfl) ?_)))))
 refine R.call ⟨_, _, Tryz.func77, rfl, by kernel_rfl⟩ rfl rfl (aupins_any hf a1 b1 hs r3 (by omega) (by omega) hm) ?_
 rintro _ w16 ⟨rfl, F16, r16, hs⟩
 rw [← e7] at r16 ⊢
 refine R.done (X.keep [(0, _), (1, _), (2, _), (3, _), (4, _), (10, _), (11, _), (12, _), (13, _), (80, _)] ⟨rfl, rfl, rfl, rfl, rfl, rfl, rfl, rfl, rfl, rfl, trivial⟩ (X.next ?_))
 refine C.cbool rfl (fun h80 => ?_) (fun h80 => ?_)
 refine C.ret (X.cutRet (X.thenRet (X.blockRet (X.loopRet (X.blockRet (X.ret0 rfl ?_))))))
 exact ⟨F16, by rw [hdone h80]; exact r16, hs⟩
 refine C.skip ?_
 first
   | exact X.cut (F16) ⟨rfl, rfl, rfl, rfl, rfl, rfl, rfl, rfl, rfl, trivial⟩ ⟨h80, r16, hs⟩
   | exact X.cut (F3) ⟨rfl, rfl, rfl, rfl, rfl, rfl, rfl, rfl, rfl, trivial⟩ ⟨by rw [e7], by rw [e7]; exact r3, hs⟩
 rw [if_neg (by rw [h75]; exact Bool.false_ne_true)] at e7
 refine C.skip ?_
 first
   | exact X.cut (F16) ⟨rfl, rfl, rfl, rfl, rfl, rfl, rfl, rfl, rfl, trivial⟩ ⟨h80, r16, hs⟩
   | exact X.cut (F3) ⟨rfl, rfl, rfl, rfl, rfl, rfl, rfl, rfl, rfl, trivial⟩ ⟨by rw [e7], by rw [e7]; exact r3, hs⟩
 rintro F4 w16 ⟨hp2, r4, hs⟩
 refine X.keep [(0, _), (1, _), (2, _), (3, _), (4, _), (10, _), (11, _), (12, _), (13, _)] ⟨rfl, rfl, rfl, rfl, rfl, rfl, rfl, rfl, rfl, trivial⟩ (X.next (C.seq (C.seq ?_)))
 refine C.cut [(0, _), (1, _), (2, _), (3, _), (4, _), (10, _), (11, _), (12, _), (13, _)] (fun (_ : Unit) => [(97, .bool (decide ((0 : Int) < ((a1 : Nat) : Int)) && !lt rr.pi.1[a1 - 1]! rr.pi.1[rr.pivot]!))]) (fun _ w' => Sat K w' (F4 :: Rs)) ⟨rfl, rfl, rfl, rfl, rfl, rfl, rfl, rfl, rfl, trivial⟩ ?_ ?_
 refine C.drawn (SatS hs) ([8, 12], [0, 1, 2, 3, 4, 5, 6, 7, 9, 10, 11, 14, 15, 16]) (by kernel_rfl) ?_
 have hs := hs.drew
 refine D.evP 0 rfl (by kernel_rfl) rfl (fun _ => hs.to) (fun _ => E.move rfl) (D.evP 1 rfl (by kernel_rfl) rfl (fun _ => hs.to) (fun _ => E.gtr rfl rfl) (D.evP 2 rfl (by kernel_rfl) rfl (fun _ => hs.to) (fun _ => E.move rfl) ?_))
 refine D.split 83 rfl (fun h83 => ?_) (fun h83 => ?_)
 have h83' := of_decide_eq_true h83
 have A1 := r4.el (K := K) (Hs := F4 :: Rs) (i := a1 - 1) (by omega)
 have A2 := r4.el (K := K) (Hs := F4 :: Rs) (i := rr.pivot) (by omega)
 refine D.evPG 3 rfl (by kernel_rfl) rfl rfl rfl (fun _ => hs.to) (fun _ => E.move rfl) (D.evPG 4 rfl (by kernel_rfl) rfl rfl rfl (fun _ => hs.to) (fun _ => E.move rfl) (D.evPG 5 rfl (by kernel_rfl) rfl rfl rfl (fun _ => hs.to) (fun _ => E.move rfl) ?_))
 refine D.evPG 6 rfl (by kernel_rfl) rfl rfl rfl (fun _ => hs.to) (fun _ => (E.sub rfl rfl (by omega) (by omega)).isI (c := ((a1 - 1 : Nat) : Int)) (by omega)) ?_
 refine D.evPG 7 rfl (by kernel_rfl) rfl rfl rfl (fun _ => hs.to) (fun _ => E.indexAddr rfl rfl Tryz.underlying58 Tryz.sz54 rfl (by first | omega | decide)) ?_
 refine D.evPG 9 rfl (by kernel_rfl) rfl rfl rfl (fun _ => hs.to) (fun _ => E.move rfl) (D.evPG 10 rfl (by kernel_rfl) rfl rfl rfl (fun _ => hs.to) (fun _ => E.move rfl) ?_)
 refine D.evPG 11 rfl (by kernel_rfl) rfl rfl rfl (fun _ => hs.to) (fun _ => E.indexAddr rfl rfl Tryz.underlying58 Tryz.sz54 rfl (by first | omega | decide)) ?_
 refine D.evG 8 rfl (by kernel_rfl) rfl rfl rfl hs.to (fun _ hS => E.loadRowC rfl Tryz.underlying54 rfl Tryz.sz54 ⟨A1 _ hS, Enc.len _⟩) (D.evG 12 rfl (by kernel_rfl) rfl rfl rfl hs.to (fun _ hS => E.loadRowC rfl Tryz.underlying54 rfl Tryz.sz54 ⟨A2 _ hS, Enc.len _⟩) (D.act 13 rfl (by kernel_rfl) (R.gyes rfl rfl ?_)))
 refine R.callV hf.1 rfl rfl rfl (hf.2 _ _ _ _ inferInstance hs) ?_
 rintro _ w17 ⟨cc17, rfl, hcc17, hs⟩
 refine D.backT (by kernel_rfl) ?_
 refine D.evPG 14 rfl (by kernel_rfl) rfl rfl rfl (np (by kernel_rfl)) (fun _ => (E.lss rfl rfl).isB (c := lt rr.pi.1[a1 - 1]! rr.pi.1[rr.pivot]!) hcc17) ?_
 refine D.evPG 15 rfl (by kernel_rfl) rfl rfl rfl (np (by kernel_rfl)) (fun _ => (E.not rfl).isB (c := !(lt rr.pi.1[a1 - 1]! rr.pi.1[rr.pivot]!)) rfl) ?_
 refine D.evP 16 rfl (by kernel_rfl) rfl (np (by kernel_rfl)) (fun _ => E.pickT rfl rfl) (D.done rfl (by kernel_rfl) (X.keep [(0, _), (1, _), (2, _), (3, _), (4, _), (10, _), (11, _), (12, _), (13, _), (97, _)] ⟨rfl, rfl, rfl, rfl, rfl, rfl, rfl, rfl, rfl, rfl, trivial⟩ ?_))
 refine X.cut (()) ⟨lkV rfl ?_, rfl, rfl, rfl, rfl, rfl, rfl, rfl, rfl, rfl, trivial⟩ ?_
 · first | exact gT h83 | exact gF h83
 exact hs
 refine D.skipP 3 rfl (by kernel_rfl) rfl rfl rfl (fun _ => hs.to) (D.skipP 4 rfl (by kernel_rfl) rfl rfl rfl (fun _ => hs.to) (D.skipP 5 rfl (by kernel_rfl) rfl rfl rfl (fun _ => hs.to) (D.skipP 6 rfl (by kernel_rfl) rfl rfl rfl (fun _ => hs.to) (D.skipP 7 rfl (by kernel_rfl) rfl rfl rfl (fun _ => hs.to) (D.skipP 9 rfl (by kernel_rfl) rfl rfl rfl (fun _ => hs.to) (D.skipP 10 rfl (by kernel_rfl) rfl rfl rfl (fun _ => hs.to) (D.skipP 11 rfl (by kernel_rfl) rfl rfl rfl (fun _ => hs.to) (D.skip 8 rfl (by kernel_rfl) rfl rfl rfl hs.to ?_))))))))
 refine D.skip 12 rfl (by kernel_rfl) rfl rfl rfl hs.to (D.act 13 rfl (by kernel_rfl) (R.gskip rfl rfl rfl (D.backT (by kernel_rfl) (D.skipP 14 rfl (by kernel_rfl) rfl rfl rfl (np (by kernel_rfl)) (D.skipP 15 rfl (by kernel_rfl) rfl rfl rfl (np (by kernel_rfl)) (D.evP 16 rfl (by kernel_rfl) rfl (np (by kernel_rfl)) (fun _ => E.pickF rfl rfl) (D.done rfl (by kernel_rfl) (X.keep [(0, _), (1, _), (2, _), (3, _), (4, _), (10, _), (11, _), (12, _), (13, _), (97, _)] ⟨rfl, rfl, rfl, rfl, rfl, rfl, rfl, rfl, rfl, rfl, trivial⟩ ?_))))))))
 refine X.cut (()) ⟨lkV rfl ?_, rfl, rfl, rfl, rfl, rfl, rfl, rfl, rfl, rfl, trivial⟩ ?_
 · first | exact gT h83 | exact gF h83
 exact hs
 rintro _ w17 hs
 refine X.keep [(0, _), (1, _), (2, _), (3, _), (4, _), (10, _), (11, _), (12, _), (13, _), (97, _)] ⟨rfl, rfl, rfl, rfl, rfl, rfl, rfl, rfl, rfl, rfl, trivial⟩ (X.next ?_)
 refine C.cbool rfl (fun h97 => ?_) (fun h97 => ?_)
 refine C.seq (C.region ?_)
 have hsz := r4.len
 have hh97 : (decide (a1 > 0) && !lt rr.pi.1[a1 - 1]! rr.pi.1[rr.pivot]!) = true := by rw [← h97]; congr 1; rw [decide_eq_decide]; omega
 have hrg := partEq_range (lt := lt) (d := rr.pi.1) hpr.1 hpr.2 (by omega)
 have hgo := heq hp2 hh97 hrg
 refine R.ev rfl (E.move rfl) (R.ev rfl (E.move rfl) (R.ev rfl (E.move rfl) (R.ev rfl (E.move rfl) (R.ev rfl (E.move rfl) ?_))))
 refine R.call ⟨_, _, Tryz.func78, rfl, by kernel_rfl⟩ rfl rfl (aupartEq_any hf a1 b1 rr.pivot hs r4 hpr.1 hpr.2 (by omega) hm) ?_
 rintro _ w18 ⟨rfl, F18, r18, hs⟩
 refine R.ev rfl (E.assign rfl) (R.done (X.keep [(0, _), (2, _), (3, _), (4, _), (10, _), (11, _), (15, _)] ⟨rfl, rfl, rfl, rfl, rfl, rfl, rfl, trivial⟩ (X.next (C.seq (C.region (R.ev rfl (E.move rfl) (R.ev rfl (E.assign rfl) (R.done ?_))))))))
 refine X.keep [(0, _), (1, _), (2, _), (3, _), (4, _), (10, _), (11, _)] ⟨rfl, rfl, rfl, rfl, rfl, rfl, rfl, trivial⟩ (X.next (C.exit (X.thenExit (X.blockExit ?_))))
 first
   | exact X.again (mid + 1, b1, rr.lim, _, ap, _, F26) ⟨rfl, rfl, rfl, rfl, rfl, rfl, rfl, trivial⟩ ⟨(hgoL (by omega)).symm, by omega, by omega, by omega, hlim2, r26, hs⟩ (by show _ - _ < _ - _; omega)
   | exact X.again (a1, mid, rr.lim, _, ap, _, F29) ⟨rfl, rfl, rfl, rfl, rfl, rfl, rfl, trivial⟩ ⟨(hgoR (by omega)).symm, by omega, by omega, by omega, hlim2, r29, hs⟩ (by show _ - _ < _ - _; omega)
   | exact X.again (_, b1, rr.lim, wb, wp, _, F18) ⟨rfl, rfl, rfl, rfl, rfl, rfl, rfl, trivial⟩ ⟨hgo.symm, by omega, by omega, by omega, hlim2, r18, hs⟩ (by show _ - _ < _ - _; omega)
 refine C.skip (X.next (C.seq (C.region ?_)))
 have hsz := r4.len
 have hh97 : (decide (a1 > 0) && !lt rr.pi.1[a1 - 1]! rr.pi.1[rr.pivot]!) = false := by rw [← h97]; congr 1; rw [decide_eq_decide]; omega
 have hrg := part_range (lt := lt) (d := rr.pi.1) hpr.1 hpr.2 (by omega)
 have hgoL := hleft hp2 hh97 hrg
 have hgoR := hright hp2 hh97 hrg
 refine R.ev rfl (E.move rfl) (R.ev rfl (E.move rfl) (R.ev rfl (E.move rfl) (R.ev rfl (E.move rfl) (R.ev rfl (E.move rfl) ?_))))
 refine R.call ⟨_, _, Tryz.func79, rfl, by kernel_rfl⟩ rfl rfl (aupart_any hf a1 b1 rr.pivot hs r4 hpr.1 hpr.2 (by omega) hm) ?_
 rintro _ w20 ⟨rfl, F20, r20, hs⟩
 generalize hmid : (partition lt rr.pi.1 a1 b1 rr.pivot).1 = mid at hrg hgoL hgoR
 generalize hap : (partition lt rr.pi.1 a1 b1 rr.pivot).2.1 = ap at hgoL hgoR
 generalize hd4 : (partition lt rr.pi.1 a1 b1 rr.pivot).2.2 = d4 at hgoL hgoR r20
 refine R.ev rfl (E.move rfl) (R.ev rfl (E.extract rfl rfl) (R.ev rfl (E.extract rfl rfl) (R.ev rfl (E.assign rfl) (R.ev rfl (E.assign rfl) (R.done (X.keep [(0, _), (1, _), (2, _), (3, _), (4, _), (12, _), (16, _), (17, _)] ⟨rfl, rfl, rfl, rfl, rfl, rfl, rfl, rfl, trivial⟩ (X.next (C.seq ?_))))))))
 refine C.region (R.ev rfl (E.move rfl) (R.ev rfl (E.assign rfl) (R.done (X.keep [(0, _), (1, _), (2, _), (3, _), (4, _), (11, _), (12, _), (16, _)] ⟨rfl, rfl, rfl, rfl, rfl, rfl, rfl, rfl, trivial⟩ (X.next (C.seq (C.region (R.ev rfl (E.move rfl) ?_))))))))
 refine R.ev rfl (E.move rfl) ?_
 refine R.ev rfl ((E.sub rfl rfl (by omega) (by omega)).isI (c := ((mid - a1 : Nat) : Int)) (by omega)) ?_
 refine R.ev rfl (E.move rfl) (R.ev rfl (E.move rfl) ?_)
 refine R.ev rfl ((E.sub rfl rfl (by omega) (by omega)).isI (c := ((b1 - mid : Nat) : Int)) (by omega)) ?_
 refine R.ev rfl (E.assign rfl) (R.ev rfl (E.assign rfl) (R.done (X.keep [(0, _), (1, _), (2, _), (3, _), (4, _), (11, _), (12, _), (16, _), (18, _), (19, _)] ⟨rfl, rfl, rfl, rfl, rfl, rfl, rfl, rfl, rfl, rfl, trivial⟩ (X.next (C.seq (C.region (R.ev rfl (E.move rfl) ?_)))))))
 refine R.ev rfl ((E.quo rfl rfl (by omega) (by omega) (by omega)).isI (c := (((b1 - a1) / 8 : Nat) : Int)) (by omega)) ?_
 refine R.ev rfl (E.assign rfl) (R.done (X.keep [(0, _), (1, _), (2, _), (3, _), (4, _), (11, _), (16, _), (18, _), (19, _), (20, _)] ⟨rfl, rfl, rfl, rfl, rfl, rfl, rfl, rfl, rfl, rfl, trivial⟩ (X.next (C.seq (C.region (R.ev rfl (E.move rfl) (R.ev rfl (E.move rfl) (R.ev rfl (E.lss rfl rfl) ?_))))))))
 refine R.done (X.keep [(0, _), (1, _), (2, _), (3, _), (4, _), (11, _), (16, _), (18, _), (19, _), (20, _), (125, _)] ⟨rfl, rfl, rfl, rfl, rfl, rfl, rfl, rfl, rfl, rfl, rfl, trivial⟩ (X.next ?_))
 refine C.cdec rfl (fun h125 => ?_) (fun h125 => ?_)
 refine C.seq (C.region (R.ev rfl (E.move rfl) (R.ev rfl (E.move rfl) ?_)))
 refine R.ev rfl ((E.geq rfl rfl).isB (c := decide (mid - a1 ≥ (b1 - a1) / 8)) (by rw [decide_eq_decide]; omega)) ?_
 refine R.ev rfl (E.assign rfl) (R.done (X.keep [(0, _), (1, _), (2, _), (3, _), (4, _), (10, _), (11, _), (16, _)] ⟨rfl, rfl, rfl, rfl, rfl, rfl, rfl, rfl, trivial⟩ (X.next (C.seq (C.region (R.ev rfl (E.move rfl) (R.ev rfl (E.move rfl) (R.ev rfl (E.move rfl) ?_))))))))
 refine R.ev rfl (E.move rfl) (R.ev rfl (E.move rfl) ?_)
 refine R.call ⟨_, _, Tryz.func53, rfl, by kernel_rfl⟩ rfl rfl (ih (mid - a1) (by omega) a1 mid rr.lim d4 F20 _ rfl hs r20 (by omega) (by omega) hlim2) ?_
 rintro _ w26 ⟨F26, r26, hs⟩
 refine R.done (X.keep [(0, _), (2, _), (3, _), (4, _), (10, _), (11, _), (16, _)] ⟨rfl, rfl, rfl, rfl, rfl, rfl, rfl, trivial⟩ (X.next (C.region (R.ev rfl (E.move rfl) ?_))))
 refine R.ev rfl ((E.add rfl rfl (by omega) (by omega)).isI (c := ((mid + 1 : Nat) : Int)) (by omega)) ?_
 refine R.ev rfl (E.assign rfl) (R.done (X.keep [(0, _), (1, _), (2, _), (3, _), (4, _), (10, _), (11, _)] ⟨rfl, rfl, rfl, rfl, rfl, rfl, rfl, trivial⟩ (X.blockNormal ?_)))
 first
   | exact X.again (mid + 1, b1, rr.lim, _, ap, _, F26) ⟨rfl, rfl, rfl, rfl, rfl, rfl, rfl, trivial⟩ ⟨(hgoL (by omega)).symm, by omega, by omega, by omega, hlim2, r26, hs⟩ (by show _ - _ < _ - _; omega)
   | exact X.again (a1, mid, rr.lim, _, ap, _, F29) ⟨rfl, rfl, rfl, rfl, rfl, rfl, rfl, trivial⟩ ⟨(hgoR (by omega)).symm, by omega, by omega, by omega, hlim2, r29, hs⟩ (by show _ - _ < _ - _; omega)
   | exact X.again (_, b1, rr.lim, wb, wp, _, F18) ⟨rfl, rfl, rfl, rfl, rfl, rfl, rfl, trivial⟩ ⟨hgo.symm, by omega, by omega, by omega, hlim2, r18, hs⟩ (by show _ - _ < _ - _; omega)
 refine C.seq (C.region (R.ev rfl (E.move rfl) (R.ev rfl (E.move rfl) ?_)))
 refine R.ev rfl ((E.geq rfl rfl).isB (c := decide (b1 - mid ≥ (b1 - a1) / 8)) (by rw [decide_eq_decide]; omega)) ?_
 refine R.ev rfl (E.assign rfl) (R.done (X.keep [(0, _), (1, _), (2, _), (3, _), (4, _), (10, _), (11, _), (16, _)] ⟨rfl, rfl, rfl, rfl, rfl, rfl, rfl, rfl, trivial⟩ (X.next (C.seq (C.region (R.ev rfl (E.move rfl) (R.ev rfl (E.move rfl) ?_)))))))
 refine R.ev rfl ((E.add rfl rfl (by omega) (by omega)).isI (c := ((mid + 1 : Nat) : Int)) (by omega)) ?_
 refine R.ev rfl (E.move rfl) (R.ev rfl (E.move rfl) (R.ev rfl (E.move rfl) ?_))
 refine R.call ⟨_, _, Tryz.func53, rfl, by kernel_rfl⟩ rfl rfl (ih (b1 - (mid + 1)) (by omega) (mid + 1) b1 rr.lim d4 F20 _ rfl hs r20 (by omega) (by omega) hlim2) ?_
 rintro _ w29 ⟨F29, r29, hs⟩
 refine R.done (X.keep [(0, _), (1, _), (3, _), (4, _), (10, _), (11, _), (16, _)] ⟨rfl, rfl, rfl, rfl, rfl, rfl, rfl, trivial⟩ (X.next (C.region (R.ev rfl (E.move rfl) (R.ev rfl (E.assign rfl) (R.done (X.keep [(0, _), (1, _), (2, _), (3, _), (4, _), (10, _), (11, _)] ⟨rfl, rfl, rfl, rfl, rfl, rfl, rfl, trivial⟩ (X.blockNormal ?_))))))))
 first
   | exact X.again (mid + 1, b1, rr.lim, _, ap, _, F26) ⟨rfl, rfl, rfl, rfl, rfl, rfl, rfl, trivial⟩ ⟨(hgoL (by omega)).symm, by omega, by omega, by omega, hlim2, r26, hs⟩ (by show _ - _ < _ - _; omega)
   | exact X.again (a1, mid, rr.lim, _, ap, _, F29) ⟨rfl, rfl, rfl, rfl, rfl, rfl, rfl, trivial⟩ ⟨(hgoR (by omega)).symm, by omega, by omega, by omega, hlim2, r29, hs⟩ (by show _ - _ < _ - _; omega)
   | exact X.again (_, b1, rr.lim, wb, wp, _, F18) ⟨rfl, rfl, rfl, rfl, rfl, rfl, rfl, trivial⟩ ⟨hgo.symm, by omega, by omega, by omega, hlim2, r18, hs⟩ (by show _ - _ < _ - _; omega)
theorem auins0_any {ad : Option Addr} {c : Nat} (cv : Value) (hs : Sat K w Rs) : Ret Tryz.prog 72 #[.slice ad 0 c, .int .i64 0, .int .i64 0, cv] w fun _ w' => Sat K w' Rs := by
 refine Ret.enter (n := 53) (args := [.slice ad 0 c, .int .i64 0, .int .i64 0, cv]) Tryz.func72 rfl rfl ?_
 refine C.keep [(0, _), (1, _), (2, _), (3, _)] ⟨rfl, rfl, rfl, rfl, trivial⟩ (C.seq (C.region (R.ev rfl (E.move rfl) ?_)))
 refine R.ev rfl ((E.add rfl rfl (by omega) (by omega)).isI (c := 1) (by omega)) ?_
 refine R.ev rfl (E.assign rfl) (R.done (X.keep [(0, _), (1, _), (2, _), (3, _), (8, _)] ⟨rfl, rfl, rfl, rfl, rfl, trivial⟩ (X.next (C.block ?_))))
 refine C.loop (T := Unit) [(0, _), (1, _), (2, _), (3, _)] (fun _ => [(8, .int .i64 1)]) (fun _ w' => Sat K w' Rs) (fun _ => 0) (()) ⟨rfl, rfl, rfl, rfl, rfl, trivial⟩ hs ?_
 rintro _ w1 hs
 refine C.keep [(0, _), (1, _), (2, _), (3, _), (8, _)] ⟨rfl, rfl, rfl, rfl, rfl, trivial⟩ (C.seq (C.seq (C.region (R.ev rfl (E.move rfl) (R.ev rfl (E.move rfl) (R.ev rfl ((E.lss rfl rfl).isF (by omega)) (R.done (X.keep [(0, _), (1, _), (2, _), (3, _), (8, _), (14, _)] ⟨rfl, rfl, rfl, rfl, rfl, rfl, trivial⟩ ?_))))))))
 refine X.next (C.cfalse rfl (C.exit (X.thenExit (X.loopExit (X.blockExit (X.bodyNormal (X.ret0 rfl ?_)))))))
 exact hs
theorem aupdq0_any {ad : Option Addr} {c : Nat} {l : Int} (cv : Value) (hs : Sat K w Rs) : Ret Tryz.prog 53 #[.slice ad 0 c, .int .i64 0, .int .i64 0, .int .i64 l, cv] w fun _ w' => Sat K w' Rs := by
 refine Ret.enter (n := 148) (args := [.slice ad 0 c, .int .i64 0, .int .i64 0, .int .i64 l, cv]) Tryz.func53 rfl rfl ?_
 refine C.keep [(0, _), (1, _), (2, _), (3, _), (4, _)] ⟨rfl, rfl, rfl, rfl, rfl, trivial⟩ (C.seq (C.region (R.ev rfl (E.assign rfl) (R.done (X.keep [(0, _), (1, _), (2, _), (3, _), (4, _), (10, _)] ⟨rfl, rfl, rfl, rfl, rfl, rfl, trivial⟩ (X.next (C.seq (C.region ?_))))))))
 refine R.ev rfl (E.assign rfl) (R.done (X.keep [(0, _), (1, _), (2, _), (3, _), (4, _), (10, _), (11, _)] ⟨rfl, rfl, rfl, rfl, rfl, rfl, rfl, trivial⟩ (X.next (C.block ?_))))
 refine C.loop (T := Unit) [(0, _), (4, _)] (fun _ => [(1, .int .i64 0), (2, .int .i64 0), (3, .int .i64 l), (10, .bool true), (11, .bool true)]) (fun _ w' => Sat K w' Rs) (fun _ => 0) (()) ⟨rfl, rfl, rfl, rfl, rfl, rfl, rfl, trivial⟩ hs ?_
 rintro _ w1 hs
 refine C.keep [(0, _), (1, _), (2, _), (3, _), (4, _), (10, _), (11, _)] ⟨rfl, rfl, rfl, rfl, rfl, rfl, rfl, trivial⟩ (C.block (C.seq (C.region (R.ev rfl (E.move rfl) (R.ev rfl (E.move rfl) (R.ev rfl (E.sub rfl rfl (by omega) (by omega)) (R.ev rfl (E.assign rfl) (R.done ?_))))))))
 refine X.keep [(0, _), (1, _), (2, _), (3, _), (4, _), (10, _), (11, _), (12, _)] ⟨rfl, rfl, rfl, rfl, rfl, rfl, rfl, rfl, trivial⟩ (X.next (C.seq (C.seq (C.region (R.ev rfl (E.move rfl) (R.ev rfl ((E.leq rfl rfl).isT (by omega)) (R.done (X.keep [(0, _), (1, _), (2, _), (3, _), (4, _), (10, _), (11, _), (12, _), (25, _)] ⟨rfl, rfl, rfl, rfl, rfl, rfl, rfl, rfl, rfl, trivial⟩ ?_))))))))
 refine X.next (C.ctrue rfl (C.seq (C.region (R.ev rfl (E.move rfl) (R.ev rfl (E.move rfl) (R.ev rfl (E.move rfl) (R.ev rfl (E.move rfl) ?_)))))))
 refine R.call ⟨_, _, Tryz.func72, rfl, by kernel_rfl⟩ rfl rfl (auins0_any _ hs) ?_
 rintro _ w4 hs
 refine R.done (X.keep [] trivial (X.next (C.ret (X.thenRet (X.blockRet (X.loopRet (X.blockRet (X.ret0 rfl ?_))))))))
 exact hs
/-- sorted, in a row -/
theorem sorted_of {d : Array (Vec 16)} (h : SortedIn lt 0 d.size d) : d.toList.Pairwise (fun x y => lt y x = false) := by
 rw [List.pairwise_iff_getElem]
 intro i j hi hj hij
 have hi' : i < d.size := by simpa using hi
 have hj' : j < d.size := by simpa using hj
 have := h i j (by omega) hij hj'
 rw [getElem!_pos d i hi', getElem!_pos d j hj'] at this
 simpa using this
theorem perm_of {d d' : Array (Vec 16)} (h : PermIn 0 d.size d d') : d'.toList.Perm d.toList := by
 have h2 := h.2.2
 have h1 := h.1
 rw [Array.extract_eq_self_of_le (by omega), Array.extract_eq_self_of_le (by omega)] at h2
 exact h2
theorem ausort_any {v : Value} {L : List (Vec 16)} (hf : auCmp K Rs fid fst cps lt) (hw : SWO lt) (hs : Sat K w (F :: Rs)) [hr : RowL 54 encV 16 v L F] (hm : L.length ≤ 1000000000) :
   Ret Tryz.prog 40 #[v, .func (.func fid) fst.toArray cps.toArray] w fun _ w' => ∃ L' F', RowL 54 encV 16 v L' F' ∧ L'.Perm L ∧ L'.Pairwise (fun x y => lt y x = false) ∧ Sat K w' (F' :: Rs) := by
 obtain ⟨ad, cap, rfl, hc, hcm, had⟩ := hr.val
 cases hL : L with
 | nil =>
   subst hL
   refine Ret.enter (n := 14) (args := [.slice ad 0 cap, .func (.func fid) fst.toArray cps.toArray]) Tryz.func40 rfl rfl ?_
   refine C.keep [(0, _), (1, _)] ⟨rfl, rfl, trivial⟩ (C.seq (C.region (R.ev rfl (E.move rfl) (R.ev rfl (E.lenSl rfl Tryz.underlying58) (R.ev rfl (E.assign rfl) (R.done (X.keep [(0, _), (1, _), (4, _)] ⟨rfl, rfl, rfl, trivial⟩ (X.next ?_))))))))
   refine C.region (R.ev rfl (E.move rfl) (R.ev rfl (E.move rfl) (R.ev rfl (E.move rfl) ?_)))
   refine R.ev rfl ((E.conv rfl Tryz.underlying3 Tryz.underlying112).isI (c := ((0 : Nat) : Int)) (by rw [IntKind.wrap_u64]; rfl)) ?_
   refine R.call ⟨_, _, Tryz.func45, rfl, by kernel_rfl⟩ rfl rfl (len_bits_any 0 (by omega) hs) ?_
   rintro _ w1 ⟨rfl, hs⟩
   refine R.ev rfl (E.move rfl) ?_
   refine R.call ⟨_, _, Tryz.func53, rfl, by kernel_rfl⟩ rfl rfl (aupdq0_any _ hs) ?_
   rintro _ w2 hs
   refine R.done (X.keep [] trivial (X.bodyNormal (X.ret0 rfl ?_)))
   exact ⟨[], F, hr, List.Perm.refl _, List.Pairwise.nil, hs⟩
 | cons x L0 =>
   rw [← hL]
   obtain ⟨b, rfl⟩ := had (by rw [hL]; exact List.cons_ne_nil _ _)
   obtain ⟨d, hd⟩ : ∃ d : Array (Vec 16), d.toList = L := ⟨L.toArray, by simp⟩
   have hdl : L.length = d.size := by rw [← hd]; simp
   rw [hdl] at hm hr hc ⊢
   have hr : auA b d.size cap d F := by rw [← hd] at hr; exact hr
   have hlaw := sort_holds (pdq_holds insertionSort_holds heapSort_holds partialInsertionSort_holds (partition_holds lt) (partitionEqual_holds lt) reverseRange_holds) hw d
   refine Ret.enter (n := 14) (args := [.slice (some ⟨b, 0, none⟩) d.size cap, .func (.func fid) fst.toArray cps.toArray]) Tryz.func40 rfl rfl ?_
   refine C.keep [(0, _), (1, _)] ⟨rfl, rfl, trivial⟩ (C.seq (C.region (R.ev rfl (E.move rfl) (R.ev rfl (E.lenSl rfl Tryz.underlying58) (R.ev rfl (E.assign rfl) (R.done (X.keep [(0, _), (1, _), (4, _)] ⟨rfl, rfl, rfl, trivial⟩ (X.next ?_))))))))
   refine C.region (R.ev rfl (E.move rfl) (R.ev rfl (E.move rfl) (R.ev rfl (E.move rfl) ?_)))
   refine R.ev rfl ((E.conv rfl Tryz.underlying3 Tryz.underlying112).isI (c := ((d.size : Nat) : Int)) (by rw [IntKind.wrap_u64]; omega)) ?_
   refine R.call ⟨_, _, Tryz.func45, rfl, by kernel_rfl⟩ rfl rfl (len_bits_any d.size (by omega) hs) ?_
   rintro _ w1 ⟨rfl, hs⟩
   refine R.ev rfl (E.move rfl) ?_
   refine R.call ⟨_, _, Tryz.func53, rfl, by kernel_rfl⟩ rfl rfl (aupdq_any hf hm _ 0 d.size (bitsLen d.size) d F _ rfl hs hr (by omega) (by omega) (by have := (bitsLen_le_iff d.size 32).2 (by omega); omega)) ?_
   rintro _ w2 ⟨F2, r2, hs⟩
   refine R.done (X.keep [] trivial (X.bodyNormal (X.ret0 rfl ?_)))
   exact ⟨_, F2, r2, by rw [← hd]; exact perm_of hlaw.1, sorted_of (by have h1 := hlaw.1.1; rw [sort] at h1 hlaw; rw [h1]; exact hlaw.2), hs⟩
end
end AuS
end Go.Proofs.YtbkgibgomohdjaaGreatDoor
