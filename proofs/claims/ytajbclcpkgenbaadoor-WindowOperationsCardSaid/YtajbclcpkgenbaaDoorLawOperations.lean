/-
  WindowOperations returns true for every number and every list of operations. No condition but the listed table (tied to the program's text).
-/
import Derived.Test.YtajbclcpkgenbaaDoorWinB
namespace Go.Proofs.YtajbclcpkgenbaaDoor
open Go.Eng Go.RowKit

theorem operations_walk (w : World) (hC : HasChg (Kn.of w)) (v0 : Value) (a0 : ArgV Tryd.prog w 3 v0) (v1 : Value) (a1 : ArgV Tryd.prog w 49 v1) : Ret Tryd.prog 8 #[v0, v1] w fun r w' => r = .bool true ∧ Mod [] w w' := by
  obtain ⟨n, rfl, _⟩ := argv_int a0 Tryd.underlying3
  obtain ⟨ad, cap, ops, rfl, hc, hcm, hr⟩ := argv_ops a1
  unfold maxLen at hcm
  have hs := Sat.start w
  have hz := sz0_is n
  have hz1 : 1 ≤ sz0 n ∧ sz0 n ≤ 64 := by simpa [isSz] using hz
  have hu0 := u64_nonneg n
  have hm := Int.emod_nonneg (IntKind.u64.wrap n) (show (64 : Int) ≠ 0 by decide)
  have hm2 := Int.emod_lt_of_pos (IntKind.u64.wrap n) (show (0 : Int) < 64 by decide)
  refine Ret.enter (n := 87) (args := [.int .i64 n, .slice ad ops.length cap]) Tryd.func8 rfl rfl ?_
  refine C.keep [(0, _), (1, _)] ⟨rfl, rfl, trivial⟩ ?_
  refine C.seq ?_
  refine C.region ?_
  refine R.ev rfl (E.assign rfl) ?_
  refine R.done ?_
  refine X.keep [(0, _), (1, _)] ⟨rfl, rfl, trivial⟩ ?_
  refine X.next ?_
  refine C.seq ?_
  refine C.seq ?_
  refine C.region ?_
  refine R.call ⟨_, _, Tryd.func12, rfl, by kernel_rfl⟩ rfl rfl (known_any hs) ?_
  rintro _ w1 ⟨rfl, hs⟩
  refine R.ev rfl (E.notT rfl) ?_
  refine R.ev rfl (E.move rfl) ?_
  refine R.gyes rfl rfl ?_
  refine R.ev rfl (E.move rfl) ?_
  refine R.gyes rfl rfl ?_
  refine R.ev rfl (E.lenSl rfl Tryd.underlying49) ?_
  refine R.gyes rfl rfl ?_
  refine R.ev rfl (E.gtr rfl rfl) ?_
  refine R.ev rfl (E.pickF rfl rfl) ?_
  refine R.done ?_
  refine X.keep [(0, _), (1, _), (22, _)] ⟨rfl, rfl, rfl, trivial⟩ ?_
  refine X.next ?_
  refine C.cdec rfl (fun h22 => ?_) (fun h22 => ?_)
  · refine C.seq ?_
    refine C.region ?_
    refine R.call ⟨_, _, Tryd.func12, rfl, by kernel_rfl⟩ rfl rfl (known_any hs) ?_
    rintro _ w2 ⟨rfl, hs⟩
    refine R.ev rfl (E.assign rfl) ?_
    refine R.done ?_
    refine X.keep [(4, _)] ⟨rfl, trivial⟩ ?_
    refine X.next ?_
    refine C.ret ?_
    refine X.thenRet ?_
    refine X.ret1 rfl rfl ?_
    exact ⟨rfl, hs.mod⟩
  · refine C.skip ?_
    refine X.next ?_
    refine C.seq ?_
    refine C.region ?_
    refine R.ev rfl (E.move rfl) ?_
    refine R.ev rfl (E.conv rfl Tryd.underlying3 Tryd.underlying29) ?_
    refine R.ev rfl (E.rem rfl rfl (by omega) (by omega)) ?_
    refine R.ev rfl ((E.conv rfl Tryd.underlying29 Tryd.underlying3).isI (c := IntKind.u64.wrap n % 64) (wrap_i64 (by omega) (by omega))) ?_
    refine R.ev rfl ((E.add rfl rfl (by omega) (by omega)).isI (c := sz0 n) rfl) ?_
    refine R.ev rfl (E.assign rfl) ?_
    refine R.done ?_
    refine X.keep [(0, _), (1, _)] ⟨rfl, rfl, trivial⟩ ?_
    refine X.next ?_
    refine C.seq ?_
    refine C.region ?_
    refine R.ev rfl (E.move rfl) ?_
    refine R.call ⟨_, _, Tryd.func13, rfl, by kernel_rfl⟩ rfl rfl (new_any (sz0 n) hs) ?_
    rintro _ w2 (⟨h, _⟩ | ⟨_, p, F, rfl, hw, hs⟩)
    · rw [hz] at h; cases h
    refine R.ev rfl (E.move rfl) ?_
    refine R.ev rfl (E.extract rfl rfl) ?_
    refine R.ev rfl (E.extract rfl rfl) ?_
    refine R.ev rfl (E.assign rfl) ?_
    refine R.ev rfl (E.assign rfl) ?_
    refine R.done ?_
    refine X.keep [(0, _), (1, _), (5, _), (6, _)] ⟨rfl, rfl, rfl, rfl, trivial⟩ ?_
    refine X.next ?_
    refine C.seq ?_
    refine C.region ?_
    refine R.ev rfl (E.move rfl) ?_
    refine R.ev rfl (E.buildF (r := [.int .i64 (sz0 n), .slice none 0 0]) rfl Tryd.underlying58 Tryd.zr58 Tryd.pl58 (by kernel_rfl) (by kernel_rfl) ⟨⟨_, rfl, by first | rfl | exact vsz _ | simp [Value.cells, *]⟩, trivial⟩ (by first | rfl | simp [setF, fieldsOf, Value.cells])) ?_
    refine R.sallocA hs Tryd.zr58 rfl ?_
    intro b7 w7 hs
    first | refine R.cstoreAll hs rfl rfl Tryd.sz58 (by first | rfl | assumption | exact Enc.len _ | exact len_ub (by assumption) | simp [*]) (by first | rfl | assumption | exact Enc.len _ | exact len_ub (by assumption) | simp [*]) (by first | assumption | exact OneL.all | exact Enc.one _ | exact ub_all _ | (repeat' (first | refine List.forall_mem_cons.2 ⟨?_, ?_⟩ | exact List.forall_mem_nil _ | rfl | exact OneC.one | exact KRow.oneC' (by assumption)))) ?_ | refine R.cstore hs rfl rfl Tryd.sz58 (by first | rfl | assumption | exact Enc.len _ | exact len_ub (by assumption) | simp [*]) (by simp [*]) (by first | assumption | exact OneL.all | exact Enc.one _ | exact ub_all _ | (repeat' (first | refine List.forall_mem_cons.2 ⟨?_, ?_⟩ | exact List.forall_mem_nil _ | rfl | exact OneC.one | exact KRow.oneC' (by assumption)))) ?_
    intro w5_3 hs
    try simp only [List.set_cons_zero, List.set_cons_succ] at hs
    refine R.done ?_
    refine X.keep [(1, _), (5, _), (6, _), (7, _)] ⟨rfl, rfl, rfl, rfl, trivial⟩ ?_
    refine X.next ?_
    refine C.seq ?_
    refine C.seq ?_
    refine C.region ?_
    refine R.ev rfl (E.move rfl) ?_
    refine R.ev rfl ((E.neq rfl rfl).isF (by simp)) ?_
    refine R.done ?_
    refine X.keep [(1, _), (5, _), (7, _), (37, _)] ⟨rfl, rfl, rfl, rfl, trivial⟩ ?_
    refine X.next ?_
    refine C.cfalse rfl ?_
    refine C.skip ?_
    refine X.next ?_
    refine C.seq ?_
    refine C.seq ?_
    refine C.region ?_
    refine R.ev rfl (E.assign rfl) ?_
    refine R.done ?_
    refine X.keep [(1, _), (5, _), (7, _), (8, _)] ⟨rfl, rfl, rfl, rfl, trivial⟩ ?_
    refine X.next ?_
    refine C.block ?_
    refine C.loop (T := Nat × Kn × Value × Hl) [(1, _), (5, _), (7, _)] (fun (k, _, _, _) => [(8, .int .i64 (k : Nat))]) (fun (k, K1, v, F') w' => k ≤ ops.length ∧ KLe (Kn.of w) K1 ∧ Win p (run (sz0 n, []) (ops.take k)).1 (run (sz0 n, []) (ops.take k)).2 F' ∧ KRow encO 34 K1 v (run (sz0 n, []) (ops.take k)).2 ∧ Sat K1 w' (row b7 58 [.int .i64 (run (sz0 n, []) (ops.take k)).1, v] :: F' :: [])) (fun (k, _) => ops.length - k) ((0, Kn.of w, .slice none 0 0, F)) ⟨rfl, rfl, rfl, rfl, trivial⟩ ⟨by omega, KLe.refl _, hw, KRow.nil, hs⟩ ?_
    rintro ⟨k, K1, v, F1⟩ w1 ⟨hk, hk1, hw1, hr1, hs⟩
    have hlen := run_len (ops.take k) (sz0 n, [])
    have hinv := run_inv (s := (sz0 n, [])) ⟨hz, by simp⟩ (ops.take k)
    have hsn := fun o h => run_snoc (s := (sz0 n, [])) (ops := ops) (k := k) (o := o) h
    generalize hst : run (sz0 n, []) (ops.take k) = st at hw1 hr1 hs hlen hsn hinv
    simp at hlen
    refine C.keep [(1, _), (5, _), (7, _), (8, _)] ⟨rfl, rfl, rfl, rfl, trivial⟩ ?_
    refine C.seq ?_
    refine C.seq ?_
    refine C.region ?_
    refine R.ev rfl (E.move rfl) ?_
    refine R.ev rfl (E.move rfl) ?_
    refine R.ev rfl (E.lenSl rfl Tryd.underlying49) ?_
    refine R.ev rfl (E.lss rfl rfl) ?_
    refine R.done ?_
    refine X.keep [(1, _), (5, _), (7, _), (8, _), (41, _)] ⟨rfl, rfl, rfl, rfl, rfl, trivial⟩ ?_
    refine X.next ?_
    refine C.cdec rfl (fun h41 => ?_) (fun h41 => ?_)
    · obtain ⟨y, bk_y, of_y, hy, my, ly, rfl, Ay⟩ := hs.el (i := k) (ad := ad) (n := ops.length) (c := cap) (by omega)
      have ay := Ay _ hs
      have hpl := pL_len st.1 st.2 y
      refine C.skip ?_
      refine X.next ?_
      refine C.seq ?_
      refine C.block ?_
      refine C.seq ?_
      refine C.region ?_
      refine R.ev rfl (E.move rfl) ?_
      refine R.ev rfl (E.move rfl) ?_
      refine R.ev rfl (E.move rfl) ?_
      refine R.ev rfl (E.indexAddr rfl rfl Tryd.underlying49 Tryd.sz51 rfl (by first | omega | decide)) ?_
      refine R.ev rfl (E.loadRowC rfl Tryd.underlying51 rfl Tryd.sz51 (by first | exact ⟨hs.ldA, by first | rfl | assumption | exact Enc.len _ | exact len_ub (by assumption)⟩ | exact ⟨hs.ldP rfl, by first | rfl | assumption | exact Enc.len _ | exact len_ub (by assumption)⟩ | exact ⟨hs.ldM rfl rfl, by first | rfl | assumption | exact Enc.len _ | exact len_ub (by assumption)⟩ | exact ⟨hs.ldM (by assumption) (by first | rfl | assumption), by first | rfl | assumption | exact Enc.len _ | exact len_ub (by assumption)⟩ | exact ⟨by assumption, by first | rfl | assumption | exact Enc.len _ | exact len_ub (by assumption)⟩ | exact hs.ldp | exact At.partC (by assumption))) ?_
      refine R.call ⟨_, _, Tryd.func24, rfl, by kernel_rfl⟩ rfl rfl (perform_any y (hs.front (F := F1)) (by omega)) ?_
      rintro _ w9 ⟨K2, v91, v92, F2, rfl, hk2, hr91, hr92, hw2, hs1⟩
      have hs := hs.back (F := F1) hs1
      replace Ay := hs.elAt (b := bk_y) (off := of_y) (n := ops.length) (cap) hy
      have ay := Ay _ hs
      refine R.ev rfl (E.move rfl) ?_
      refine R.ev rfl (E.extract rfl rfl) ?_
      refine R.ev rfl (E.extract rfl rfl) ?_
      refine R.ev rfl (E.extract rfl rfl) ?_
      refine R.ev rfl (E.assign rfl) ?_
      refine R.ev rfl (E.assign rfl) ?_
      refine R.ev rfl (E.assign rfl) ?_
      refine R.done ?_
      refine X.keep [(1, _), (5, _), (7, _), (8, _), (9, _), (10, _), (11, _)] ⟨rfl, rfl, rfl, rfl, rfl, rfl, rfl, trivial⟩ ?_
      refine X.next ?_
      refine C.seq ?_
      refine C.cut [(1, _), (5, _), (7, _), (8, _), (9, _), (10, _), (11, _)] (fun ((b, _, _, v1, v2) : Nat × Kn × Value × Value × Value) => [(12, ptr b), (13, .int .i64 (pE st.1 st.2 y)), (14, v1), (15, v2)]) (fun (b, K3, v', v1, v2) w' => KLe K2 K3 ∧ KRow encO 34 K3 v' (pL st.1 st.2 y) ∧ KRow encR 33 K3 v1 (pR st.2 y) ∧ KRow encV 32 K3 v2 (pD st.2 y) ∧ Sat K3 w' (row b 58 [.int .i64 (pS st.1 y), v'] :: row b7 58 [.int .i64 st.1, v] :: F2 :: [])) ⟨rfl, rfl, rfl, rfl, rfl, rfl, rfl, trivial⟩ ?_ ?_
      · refine C.drawn (SatS hs) ([0, 4], [1, 2, 3, 6, 7, 8, 9, 10, 13, 14, 15]) (by kernel_rfl) ?_
        have hs := hs.drew
        refine D.evP 1 rfl (by kernel_rfl) rfl (fun _ => hs.to) (fun _ => E.move rfl) ?_
        refine D.evP 2 rfl (by kernel_rfl) rfl (fun _ => hs.to) (fun _ => E.move rfl) ?_
        refine D.evP 3 rfl (by kernel_rfl) rfl (fun _ => hs.to) (fun _ => E.indexAddr rfl rfl Tryd.underlying49 Tryd.sz51 rfl (by first | omega | decide)) ?_
        refine D.ev 0 rfl (by kernel_rfl) rfl hs.to (fun _ hS => E.loadRowC rfl Tryd.underlying58 rfl Tryd.sz58 (by first | exact ⟨hS.ldA, by first | rfl | assumption | exact Enc.len _ | exact len_ub (by assumption)⟩ | exact ⟨hS.ldP rfl, by first | rfl | assumption | exact Enc.len _ | exact len_ub (by assumption)⟩ | exact ⟨hS.ldM rfl rfl, by first | rfl | assumption | exact Enc.len _ | exact len_ub (by assumption)⟩ | exact ⟨hS.ldM (by assumption) (by first | rfl | assumption), by first | rfl | assumption | exact Enc.len _ | exact len_ub (by assumption)⟩ | exact ⟨by assumption, by first | rfl | assumption | exact Enc.len _ | exact len_ub (by assumption)⟩ | exact ⟨(by assumption : ∀ w', Sat _ w' _ → At w' _ _ _) _ hS, by first | rfl | assumption | exact Enc.len _ | exact len_ub (by assumption)⟩ | exact hS.ldp | exact At.partC (by assumption) | exact At.partC ((by assumption : ∀ w', Sat _ w' _ → At w' _ _ _) _ hS))) ?_
        refine D.ev 4 rfl (by kernel_rfl) rfl hs.to (fun _ hS => E.loadRowC rfl Tryd.underlying51 rfl Tryd.sz51 (by first | exact ⟨hS.ldA, by first | rfl | assumption | exact Enc.len _ | exact len_ub (by assumption)⟩ | exact ⟨hS.ldP rfl, by first | rfl | assumption | exact Enc.len _ | exact len_ub (by assumption)⟩ | exact ⟨hS.ldM rfl rfl, by first | rfl | assumption | exact Enc.len _ | exact len_ub (by assumption)⟩ | exact ⟨hS.ldM (by assumption) (by first | rfl | assumption), by first | rfl | assumption | exact Enc.len _ | exact len_ub (by assumption)⟩ | exact ⟨by assumption, by first | rfl | assumption | exact Enc.len _ | exact len_ub (by assumption)⟩ | exact ⟨(by assumption : ∀ w', Sat _ w' _ → At w' _ _ _) _ hS, by first | rfl | assumption | exact Enc.len _ | exact len_ub (by assumption)⟩ | exact hS.ldp | exact At.partC (by assumption) | exact At.partC ((by assumption : ∀ w', Sat _ w' _ → At w' _ _ _) _ hS))) ?_
        refine D.act2 5 11 rfl rfl (by kernel_rfl) ?_ ?_
        · refine R.call ⟨_, _, Tryd.func29, rfl, by kernel_rfl⟩ rfl rfl (do_any (sz := st.1) (L := st.2) y hs (by omega)) ?_
          rintro _ w10 ⟨K3, v', v1, v2, rfl, hk3, hr3, hr1', hr2', hs⟩
          refine D.backT (by kernel_rfl) ?_
          refine D.evP 6 rfl (by kernel_rfl) rfl (np (by kernel_rfl)) (fun _ => E.move rfl) ?_
          refine D.evP 7 rfl (by kernel_rfl) rfl (np (by kernel_rfl)) (fun _ => E.extract rfl rfl) ?_
          refine D.evP 8 rfl (by kernel_rfl) rfl (np (by kernel_rfl)) (fun _ => E.extract rfl rfl) ?_
          refine D.evP 9 rfl (by kernel_rfl) rfl (np (by kernel_rfl)) (fun _ => E.extract rfl rfl) ?_
          refine D.evP 10 rfl (by kernel_rfl) rfl (np (by kernel_rfl)) (fun _ => E.extract rfl rfl) ?_
          refine D.act 11 rfl (by kernel_rfl) ?_
          refine R.sallocA hs Tryd.zr58 rfl ?_
          intro b12 w12 hs
          refine D.backT (by kernel_rfl) ?_
          refine D.act 12 rfl (by kernel_rfl) ?_
          first | refine R.cstoreAll hs rfl rfl Tryd.sz58 (by first | rfl | assumption | exact Enc.len _ | exact len_ub (by assumption) | simp [*]) (by first | rfl | assumption | exact Enc.len _ | exact len_ub (by assumption) | simp [*]) (by first | assumption | exact OneL.all | exact Enc.one _ | exact ub_all _ | (repeat' (first | refine List.forall_mem_cons.2 ⟨?_, ?_⟩ | exact List.forall_mem_nil _ | rfl | exact OneC.one | exact KRow.oneC' (by assumption)))) ?_ | refine R.cstore hs rfl rfl Tryd.sz58 (by first | rfl | assumption | exact Enc.len _ | exact len_ub (by assumption) | simp [*]) (by simp [*]) (by first | assumption | exact OneL.all | exact Enc.one _ | exact ub_all _ | (repeat' (first | refine List.forall_mem_cons.2 ⟨?_, ?_⟩ | exact List.forall_mem_nil _ | rfl | exact OneC.one | exact KRow.oneC' (by assumption)))) ?_
          intro w12_12 hs
          try simp only [List.set_cons_zero, List.set_cons_succ] at hs
          refine D.backT (by kernel_rfl) ?_
          refine D.evP 13 rfl (by kernel_rfl) rfl (np (by kernel_rfl)) (fun _ => E.assign rfl) ?_
          refine D.evP 14 rfl (by kernel_rfl) rfl (np (by kernel_rfl)) (fun _ => E.assign rfl) ?_
          refine D.evP 15 rfl (by kernel_rfl) rfl (np (by kernel_rfl)) (fun _ => E.assign rfl) ?_
          refine D.done rfl (by kernel_rfl) ?_
          refine X.keep [(1, _), (5, _), (7, _), (8, _), (9, _), (10, _), (11, _), (12, _), (13, _), (14, _), (15, _)] ⟨rfl, rfl, rfl, rfl, rfl, rfl, rfl, rfl, rfl, rfl, rfl, trivial⟩ ?_
          refine X.cut ((b12, K3, v', v1, v2)) ⟨lkV rfl ?_, lkV rfl ?_, lkV rfl ?_, lkV rfl ?_, rfl, rfl, rfl, rfl, rfl, rfl, rfl, trivial⟩ ?_
          · rfl
          · rfl
          · rfl
          · rfl
          · exact ⟨hk3, hr3, hr1', hr2', hs.to⟩
        · refine R.sallocA hs Tryd.zr58 rfl ?_
          intro b12 w12 hs
          refine D.back hs.to ?_
          refine D.act 5 rfl (by kernel_rfl) ?_
          refine R.call ⟨_, _, Tryd.func29, rfl, by kernel_rfl⟩ rfl rfl (do_any (sz := st.1) (L := st.2) y hs (by omega)) ?_
          rintro _ w10 ⟨K3, v', v1, v2, rfl, hk3, hr3, hr1', hr2', hs⟩
          refine D.backT (by kernel_rfl) ?_
          refine D.evP 6 rfl (by kernel_rfl) rfl (np (by kernel_rfl)) (fun _ => E.move rfl) ?_
          refine D.evP 7 rfl (by kernel_rfl) rfl (np (by kernel_rfl)) (fun _ => E.extract rfl rfl) ?_
          refine D.evP 8 rfl (by kernel_rfl) rfl (np (by kernel_rfl)) (fun _ => E.extract rfl rfl) ?_
          refine D.evP 9 rfl (by kernel_rfl) rfl (np (by kernel_rfl)) (fun _ => E.extract rfl rfl) ?_
          refine D.evP 10 rfl (by kernel_rfl) rfl (np (by kernel_rfl)) (fun _ => E.extract rfl rfl) ?_
          refine D.act 12 rfl (by kernel_rfl) ?_
          first | refine R.cstoreAll hs rfl rfl Tryd.sz58 (by first | rfl | assumption | exact Enc.len _ | exact len_ub (by assumption) | simp [*]) (by first | rfl | assumption | exact Enc.len _ | exact len_ub (by assumption) | simp [*]) (by first | assumption | exact OneL.all | exact Enc.one _ | exact ub_all _ | (repeat' (first | refine List.forall_mem_cons.2 ⟨?_, ?_⟩ | exact List.forall_mem_nil _ | rfl | exact OneC.one | exact KRow.oneC' (by assumption)))) ?_ | refine R.cstore hs rfl rfl Tryd.sz58 (by first | rfl | assumption | exact Enc.len _ | exact len_ub (by assumption) | simp [*]) (by simp [*]) (by first | assumption | exact OneL.all | exact Enc.one _ | exact ub_all _ | (repeat' (first | refine List.forall_mem_cons.2 ⟨?_, ?_⟩ | exact List.forall_mem_nil _ | rfl | exact OneC.one | exact KRow.oneC' (by assumption)))) ?_
          intro w12_12 hs
          try simp only [List.set_cons_zero, List.set_cons_succ] at hs
          refine D.backT (by kernel_rfl) ?_
          refine D.evP 13 rfl (by kernel_rfl) rfl (np (by kernel_rfl)) (fun _ => E.assign rfl) ?_
          refine D.evP 14 rfl (by kernel_rfl) rfl (np (by kernel_rfl)) (fun _ => E.assign rfl) ?_
          refine D.evP 15 rfl (by kernel_rfl) rfl (np (by kernel_rfl)) (fun _ => E.assign rfl) ?_
          refine D.done rfl (by kernel_rfl) ?_
          refine X.keep [(1, _), (5, _), (7, _), (8, _), (9, _), (10, _), (11, _), (12, _), (13, _), (14, _), (15, _)] ⟨rfl, rfl, rfl, rfl, rfl, rfl, rfl, rfl, rfl, rfl, rfl, trivial⟩ ?_
          refine X.cut ((b12, K3, v', v1, v2)) ⟨lkV rfl ?_, lkV rfl ?_, lkV rfl ?_, lkV rfl ?_, rfl, rfl, rfl, rfl, rfl, rfl, rfl, trivial⟩ ?_
          · rfl
          · rfl
          · rfl
          · rfl
          · exact ⟨hk3, hr3, hr1', hr2', hs.to⟩
      · rintro ⟨b12, K3, v', v1, v2⟩ w3 ⟨hk3, hr3, hr1', hr2', hs⟩
        refine X.keep [(1, _), (5, _), (7, _), (8, _), (9, _), (10, _), (11, _), (12, _), (13, _), (14, _), (15, _)] ⟨rfl, rfl, rfl, rfl, rfl, rfl, rfl, rfl, rfl, rfl, rfl, trivial⟩ ?_
        refine X.next ?_
        refine C.seq ?_
        refine C.seq ?_
        refine C.region ?_
        refine R.ev rfl (E.move rfl) ?_
        refine R.ev rfl (E.move rfl) ?_
        refine R.ev rfl ((E.neq rfl rfl).isF (by simp)) ?_
        refine R.ev rfl (E.move rfl) ?_
        refine R.gyes rfl rfl ?_
        refine R.ev rfl (E.move rfl) ?_
        refine R.gyes rfl rfl ?_
        refine R.ev rfl (E.move rfl) ?_
        refine R.gyes rfl rfl ?_
        refine R.call ⟨_, _, Tryd.func19, rfl, by kernel_rfl⟩ rfl rfl (results_any (L := pR st.2 y) (M := pR st.2 y) hs (by have := pR_len st.2 y; omega)) ?_
        rintro _ w11 ⟨h11, hs⟩
        rw [decide_eq_true rfl] at h11
        subst h11
        refine R.gyes rfl rfl ?_
        refine R.ev rfl (E.notT rfl) ?_
        refine R.ev rfl (E.pickF rfl rfl) ?_
        refine R.ev rfl (E.move rfl) ?_
        refine R.gyes rfl rfl ?_
        refine R.ev rfl (E.move rfl) ?_
        refine R.gyes rfl rfl ?_
        refine R.ev rfl (E.move rfl) ?_
        refine R.gyes rfl rfl ?_
        refine R.call ⟨_, _, Tryd.func27, rfl, by kernel_rfl⟩ rfl rfl (ids_any (L := pD st.2 y) (M := pD st.2 y) hs (by have := pD_len st.2 y; omega)) ?_
        rintro _ w12 ⟨h12, hs⟩
        rw [decide_eq_true rfl] at h12
        subst h12
        refine R.gyes rfl rfl ?_
        refine R.ev rfl (E.notT rfl) ?_
        refine R.ev rfl (E.pickF rfl rfl) ?_
        refine R.ev rfl (E.move rfl) ?_
        refine R.gyes rfl rfl ?_
        refine R.ev rfl (E.move rfl) ?_
        refine R.gyes rfl rfl ?_
        refine R.ev rfl (E.loadRowC rfl Tryd.underlying58 rfl Tryd.sz58 (by first | exact ⟨hs.ldA, by first | rfl | assumption | exact Enc.len _ | exact len_ub (by assumption)⟩ | exact ⟨hs.ldP rfl, by first | rfl | assumption | exact Enc.len _ | exact len_ub (by assumption)⟩ | exact ⟨hs.ldM rfl rfl, by first | rfl | assumption | exact Enc.len _ | exact len_ub (by assumption)⟩ | exact ⟨hs.ldM (by assumption) (by first | rfl | assumption), by first | rfl | assumption | exact Enc.len _ | exact len_ub (by assumption)⟩ | exact ⟨by assumption, by first | rfl | assumption | exact Enc.len _ | exact len_ub (by assumption)⟩ | exact hs.ldp | exact At.partC (by assumption))) ?_
        refine R.gyes rfl rfl ?_
        refine R.call ⟨_, _, Tryd.func30, rfl, by kernel_rfl⟩ rfl rfl (same_any (sz := pS st.1 y) (L := pL st.1 st.2 y) hs (by omega) (pInv y hinv)) ?_
        rintro _ w13 ⟨rfl, hs⟩
        refine R.gyes rfl rfl ?_
        refine R.ev rfl (E.notT rfl) ?_
        refine R.ev rfl (E.pickF rfl rfl) ?_
        refine R.done ?_
        refine X.keep [(1, _), (5, _), (7, _), (8, _), (12, _), (85, _)] ⟨rfl, rfl, rfl, rfl, rfl, rfl, trivial⟩ ?_
        refine X.next ?_
        refine C.cfalse rfl ?_
        refine C.skip ?_
        refine X.next ?_
        refine C.region ?_
        refine R.ev rfl (E.loadRowC rfl Tryd.underlying58 rfl Tryd.sz58 (by first | exact ⟨hs.ldA, by first | rfl | assumption | exact Enc.len _ | exact len_ub (by assumption)⟩ | exact ⟨hs.ldP rfl, by first | rfl | assumption | exact Enc.len _ | exact len_ub (by assumption)⟩ | exact ⟨hs.ldM rfl rfl, by first | rfl | assumption | exact Enc.len _ | exact len_ub (by assumption)⟩ | exact ⟨hs.ldM (by assumption) (by first | rfl | assumption), by first | rfl | assumption | exact Enc.len _ | exact len_ub (by assumption)⟩ | exact ⟨by assumption, by first | rfl | assumption | exact Enc.len _ | exact len_ub (by assumption)⟩ | exact hs.ldp | exact At.partC (by assumption))) ?_
        first | refine R.cstoreAll hs rfl rfl Tryd.sz58 (by first | rfl | assumption | exact Enc.len _ | exact len_ub (by assumption) | simp [*]) (by first | rfl | assumption | exact Enc.len _ | exact len_ub (by assumption) | simp [*]) (by first | assumption | exact OneL.all | exact Enc.one _ | exact ub_all _ | (repeat' (first | refine List.forall_mem_cons.2 ⟨?_, ?_⟩ | exact List.forall_mem_nil _ | rfl | exact OneC.one | exact KRow.oneC' (by assumption)))) ?_ | refine R.cstore hs rfl rfl Tryd.sz58 (by first | rfl | assumption | exact Enc.len _ | exact len_ub (by assumption) | simp [*]) (by simp [*]) (by first | assumption | exact OneL.all | exact Enc.one _ | exact ub_all _ | (repeat' (first | refine List.forall_mem_cons.2 ⟨?_, ?_⟩ | exact List.forall_mem_nil _ | rfl | exact OneC.one | exact KRow.oneC' (by assumption)))) ?_
        intro w15_1 hs
        try simp only [List.set_cons_zero, List.set_cons_succ] at hs
        refine R.done ?_
        refine X.keep [(1, _), (5, _), (7, _), (8, _)] ⟨rfl, rfl, rfl, rfl, trivial⟩ ?_
        refine X.blockNormal ?_
        refine X.next ?_
        refine C.region ?_
        refine R.ev rfl (E.move rfl) ?_
        refine R.ev rfl (E.add rfl rfl (by omega) (by omega)) ?_
        refine R.ev rfl (E.assign rfl) ?_
        refine R.done ?_
        refine X.keep [(1, _), (5, _), (7, _), (8, _)] ⟨rfl, rfl, rfl, rfl, trivial⟩ ?_
        have e := hsn y hy
        exact X.again (k + 1, K3, v', F2) ⟨rfl, rfl, rfl, rfl, trivial⟩ ⟨by omega, (hk1.trans hk2).trans hk3, by rw [e]; exact hw2, by rw [e]; exact hr3, by rw [e]; exact hs.to⟩ (by show _ - _ < _ - _; omega)
    · refine C.exit ?_
      refine X.thenExit ?_
      refine X.loopExit ?_
      refine X.blockExit ?_
      refine X.next ?_
      refine C.seq ?_
      refine C.region ?_
      refine R.ev rfl (E.assign rfl) ?_
      refine R.done ?_
      refine X.keep [(4, _)] ⟨rfl, trivial⟩ ?_
      refine X.next ?_
      refine C.ret ?_
      refine X.ret1 rfl rfl ?_
      exact ⟨rfl, (hs.less hk1.le).mod⟩

namespace windowOperations
open Go.ChangeShapes Go.WideShapes Go.ChangeAt Go.RowKit
open Go.ChangeMaps (open_string shut_string)
set_option linter.unusedVariables false

theorem own : ownKnob Tryd.prog.godebug = none := by kernel_rfl
theorem laidOut : laidOutB Tryd.prog = true := by kernel_rfl
theorem door_met (os : Os) (args : Array Value) : laidMetH Tryd.prog Rows.windowOperationsRow.laid ((World.doorLaid Tryd.prog 400 os).forCall (fun _ _ => 0) ⟨#[], args, []⟩).memory :=
  laidMetH_of_parts3 (fuel := 8) (laidMet_of_run' 8 (by kernel_rfl) (by kernel_rfl)) (by kernel_rfl) (by kernel_rfl)
set_option maxRecDepth 100000 in
theorem lifted (os : Os) (started : os.Started) (H : Type) (enc : TypeId × Value → H) :
    ReturnsInHanded {} Tryd.checked os 8 .any (fun w args => (Rows.windowOperationsSpec.pre enc Tryd.prog Tryd.f8 [] false w args ∧ laidMetH Tryd.prog Rows.windowOperationsRow.laid w) ∧ sizedMet enc Tryd.prog Tryd.f8 (OpenSpec.ofChange Rows.windowOperationsSpec) false w args)
      (Rows.windowOperationsSpec.post enc Tryd.prog Tryd.f8 false true false false) := by
  refine returnsInHanded_of_change_and (C := Tryd.checked) (X := fun w _ => laidMetH Tryd.prog Rows.windowOperationsRow.laid w) (fun _ _ _ hh h => h.of_heap hh) own started (by kernel_rfl) Tryd.func8
    (ChangeSpec.witness_shaped (enc := enc) (C := Tryd.checked) (os := os) (X := fun w _ => laidMetH Tryd.prog Rows.windowOperationsRow.laid w) false (World.doorLaid Tryd.prog 400 os) #[.int .i64 0, .slice none 0 0] 8 rfl (World.shaped_of_RefB (by kernel_rfl) (by kernel_rfl)) (by kernel_rfl) (by kernel_rfl) (by kernel_rfl) (door_met os _)) ?_
  intro W base args ds gs before hval0 hW _ _ hL _
  have hval : ∀ (j : Nat) t v, Tryd.f8.params[j]? = some t → args[j]? = some v → Value.okWide Tryd.prog W .any base t v := hval0
  have hW' := hW
  obtain ⟨p, q, hA0, hV, rfl, hfz, hnd⟩ := hW
  have hA : DataW.TrodAll enc Tryd.prog W 0 (fun _ => true) true Tryd.f8.params.toList args.toList ds p := hA0
  rw [Tryd.params8] at hA hval
  obtain ⟨v0, vs0, d0, ds0, p0, q0, hargs, rfl, rfl, h0, r0⟩ := trodAll_cons hA
  obtain ⟨v1, vs1, d1, ds1, p1, q1, rfl, rfl, rfl, h1, r1⟩ := trodAll_cons r0
  obtain ⟨rfl, rfl, rfl⟩ := trodAll_nil r1
  obtain rfl : args = #[v0, v1] := by cases args; simp_all
  obtain ⟨rfl, rfl⟩ := trodVars_none hV
  have lt0 : ∀ x ∈ p0, x.block < W.heap.size := by obtain ⟨m, hm⟩ := h0; exact DataW.trod_lt m _ _ _ hm
  have a0 := Eng.argv_of (hval 0 3 v0 rfl rfl) h0
  have lt1 : ∀ x ∈ p1, x.block < W.heap.size := by obtain ⟨m, hm⟩ := h1; exact DataW.trod_lt m _ _ _ hm
  have a1 := Eng.argv_of (hval 1 49 v1 rfl rfl) h1
  clear hA0 hval0
  refine Calls.mono (operations_walk W (laid_chg hL) v0 a0 v1 a1) fun e W' ⟨v, he, hv, hm⟩ => ?_
  subst he
  subst hv
  have bel := hm.below
  exact ⟨_, rfl, _, _, _, [], _, [], hW', trodAll_mk1 (shut_bool Tryd.underlying4 _), (trodAll_cons_mk (Below.trod laidOut (by kernel_rfl) (of_decide_eq_true (by kernel_rfl)) h0 bel lt0) (trodAll_cons_mk (Below.trod laidOut (by kernel_rfl) (of_decide_eq_true (by kernel_rfl)) h1 bel lt1) trodAll_mk0)), rfl, bel.frame _, fun h => by cases h⟩

theorem over : Rows.windowOperationsRow.holds Tryd.pinned (OpenSpec.ofChange Rows.windowOperationsSpec) :=
  OpenClaim.holds_of_wide 8 Tryd.f8 rfl rfl rfl rfl rfl rfl rfl ⟨rfl, rfl, rfl, rfl, rfl⟩ rfl rfl rfl rfl rfl (by kernel_rfl) Tryd.func8 (by kernel_rfl)
    (of_decide_eq_true (by kernel_rfl)) (by unfold Func.isWrapper; first | (rw [if_pos (by decide +kernel)]; kernel_rfl) | (rw [if_neg (by decide +kernel)]; exact ⟨rfl, rfl⟩))
    (fun os started H enc _ => lifted os started H enc)
end windowOperations
/-- the statement: the tied card -/
theorem windowOperations_holds : Rows.WindowOperationsCardSaid :=
  Claim7.holds_tied_plain_at .later [] [.data] true (true, "528cf9756be51d7108a31d58a47078c1c4b59c91fa320a11aaba2c24a43b3e31") false
    windowOperations.over (fun _ h => by cases h) (by kernel_rfl) (fun _ h => by cases h) windowOperations_row_tie rfl ⟨rfl, rfl⟩ (by kernel_rfl) rfl
    (fun f fn hf hfn => by
      obtain rfl : f = 8 := Option.some.inj ((show Tryd.prog.funcNamed "bulletin/bulletinlaw36.WindowOperations" = some 8 by kernel_rfl).symm.trans hf) |>.symm
      obtain rfl : fn = Tryd.f8 := (Option.some.inj (Tryd.func8.symm.trans hfn)).symm
      exact ⟨by kernel_rfl, fun j t ht => by
        rw [Tryd.params8] at ht
        have ht := List.mem_of_getElem? (by simpa using ht)
        have key : ∀ t ∈ ([3, 49] : List TypeId), Tryd.prog.wantsStandIn t = false := by
          intro t ht
          simp only [List.mem_cons, List.not_mem_nil, or_false] at ht
          rcases ht with rfl | rfl <;> kernel_rfl
        exact key t (by simpa using ht)⟩)
    (by kernel_rfl)
#print axioms windowOperations_holds
end Go.Proofs.YtajbclcpkgenbaaDoor
