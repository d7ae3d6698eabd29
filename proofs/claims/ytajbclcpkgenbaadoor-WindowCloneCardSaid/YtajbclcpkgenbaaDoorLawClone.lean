/-
  WindowClone returns true for every input. No condition but the listed table (tied to the program's text).
-/
import Derived.Test.YtajbclcpkgenbaaDoorWinB
namespace Go.Proofs.YtajbclcpkgenbaaDoor
open Go.Eng Go.RowKit

theorem clone_walk (w : World) (hC : HasChg (Kn.of w)) (v0 : Value) (a0 : ArgV Tryd.prog w 3 v0) (v1 : Value) (a1 : ArgV Tryd.prog w 49 v1) (v2 : Value) (a2 : ArgV Tryd.prog w 49 v2) : Ret Tryd.prog 10 #[v0, v1, v2] w fun r w' => r = .bool true ∧ Mod [] w w' := by
  obtain ⟨n, rfl, _⟩ := argv_int a0 Tryd.underlying3
  obtain ⟨ad, cap, ops, rfl, hc, hcm, hr⟩ := argv_ops a1
  obtain ⟨ad2, cap2, ops2, rfl, hc2, hcm2, hr2⟩ := argv_ops a2
  unfold maxLen at hcm hcm2
  have hs := Sat.start w
  have hinv := run_inv (s := (sz0 n, [])) ⟨sz0_is n, by simp⟩ ops
  have hlen := run_len ops (sz0 n, [])
  refine Ret.enter (n := 159) (args := [.int .i64 n, .slice ad ops.length cap, .slice ad2 ops2.length cap2]) Tryd.func10 rfl rfl ?_
  refine C.keep [(0, _), (1, _), (2, _)] ⟨rfl, rfl, rfl, trivial⟩ ?_
  refine C.seq ?_
  refine C.region ?_
  refine R.ev rfl (E.assign rfl) ?_
  refine R.done ?_
  refine X.keep [(0, _), (1, _), (2, _)] ⟨rfl, rfl, rfl, trivial⟩ ?_
  refine X.next ?_
  refine C.seq ?_
  refine C.seq ?_
  refine C.region ?_
  refine R.call ⟨_, _, Tryd.func12, rfl, by kernel_rfl⟩ rfl rfl (known_any hs) ?_
  rintro _ w1 ⟨rfl, hs⟩
  refine R.ev rfl (E.notT rfl) ?_
  refine R.ev rfl (E.move rfl) ?_
  refine R.gyes rfl rfl ?_
  refine R.ev rfl (E.move rfl) ?_
  refine R.gyes rfl rfl ?_
  refine R.ev rfl (E.lenSl rfl Tryd.underlying49) ?_
  refine R.gyes rfl rfl ?_
  refine R.ev rfl (E.gtr rfl rfl) ?_
  refine R.ev rfl (E.pickF rfl rfl) ?_
  refine R.ev rfl (E.move rfl) ?_
  refine R.split 29 rfl (fun h29 => ?_) (fun h29 => ?_)
  · refine R.gskip rfl rfl rfl ?_
    refine R.gskip rfl rfl rfl ?_
    refine R.gskip rfl rfl rfl ?_
    refine R.ev rfl (E.pickT rfl rfl) ?_
    refine R.done ?_
    refine X.keep [(0, _), (1, _), (2, _), (33, _)] ⟨rfl, rfl, rfl, rfl, trivial⟩ ?_
    refine X.next ?_
    refine C.ctrue rfl ?_
    refine C.seq ?_
    refine C.region ?_
    refine R.call ⟨_, _, Tryd.func12, rfl, by kernel_rfl⟩ rfl rfl (known_any hs) ?_
    rintro _ w2 ⟨rfl, hs⟩
    refine R.ev rfl (E.assign rfl) ?_
    refine R.done ?_
    refine X.keep [(6, _)] ⟨rfl, trivial⟩ ?_
    refine X.next ?_
    refine C.ret ?_
    refine X.thenRet ?_
    refine X.ret1 rfl rfl ?_
    exact ⟨rfl, hs.mod⟩
  · refine R.gyes rfl rfl ?_
    refine R.ev rfl (E.move rfl) ?_
    refine R.gyes rfl rfl ?_
    refine R.ev rfl (E.lenSl rfl Tryd.underlying49) ?_
    refine R.gyes rfl rfl ?_
    refine R.ev rfl (E.gtr rfl rfl) ?_
    refine R.ev rfl (E.pickF rfl rfl) ?_
    refine R.done ?_
    refine X.keep [(0, _), (1, _), (2, _), (33, _)] ⟨rfl, rfl, rfl, rfl, trivial⟩ ?_
    refine X.next ?_
    refine C.cbool rfl (fun h33 => ?_) (fun h33 => ?_)
    · refine C.seq ?_
      refine C.region ?_
      refine R.call ⟨_, _, Tryd.func12, rfl, by kernel_rfl⟩ rfl rfl (known_any hs) ?_
      rintro _ w2 ⟨rfl, hs⟩
      refine R.ev rfl (E.assign rfl) ?_
      refine R.done ?_
      refine X.keep [(6, _)] ⟨rfl, trivial⟩ ?_
      refine X.next ?_
      refine C.ret ?_
      refine X.thenRet ?_
      refine X.ret1 rfl rfl ?_
      exact ⟨rfl, hs.mod⟩
    · refine C.skip ?_
      refine X.next ?_
      refine C.seq ?_
      refine C.region ?_
      have hb1 : ops.length ≤ 100 := by first | (simp_all; done) | (simp_all; omega)
      have hb2 : ops2.length ≤ 100 := by first | (simp_all; done) | (simp_all; omega)
      refine R.ev rfl (E.move rfl) ?_
      refine R.ev rfl (E.move rfl) ?_
      refine R.call ⟨_, _, Tryd.func25, rfl, by kernel_rfl⟩ rfl rfl (build_any (ops := ops) n hs hb1) ?_
      rintro _ w3 ⟨K1, p, v, F, rfl, hk1, hw, hr1, hs⟩
      generalize hst : run (sz0 n, []) ops = st at hw hr1 hs hlen hinv
      simp at hlen
      obtain ⟨ad3, cap3, rfl, _, _⟩ := hr1.ex
      refine R.ev rfl (E.move rfl) ?_
      refine R.ev rfl (E.extract rfl rfl) ?_
      refine R.ev rfl (E.extract rfl rfl) ?_
      refine R.ev rfl (E.extract rfl rfl) ?_
      refine R.sallocA hs Tryd.zr58 rfl ?_
      intro b8 w8 hs
      refine R.ev rfl (E.assign rfl) ?_
      first | refine R.cstoreAll hs rfl rfl Tryd.sz58 (by first | rfl | assumption | exact Enc.len _ | exact len_ub (by assumption) | simp [*]) (by first | rfl | assumption | exact Enc.len _ | exact len_ub (by assumption) | simp [*]) (by first | assumption | exact OneL.all | exact Enc.one _ | exact ub_all _ | (repeat' (first | refine List.forall_mem_cons.2 ⟨?_, ?_⟩ | exact List.forall_mem_nil _ | rfl | exact OneC.one | exact KRow.oneC' (by assumption)))) ?_ | refine R.cstore hs rfl rfl Tryd.sz58 (by first | rfl | assumption | exact Enc.len _ | exact len_ub (by assumption) | simp [*]) (by simp [*]) (by first | assumption | exact OneL.all | exact Enc.one _ | exact ub_all _ | (repeat' (first | refine List.forall_mem_cons.2 ⟨?_, ?_⟩ | exact List.forall_mem_nil _ | rfl | exact OneC.one | exact KRow.oneC' (by assumption)))) ?_
      intro w3_9 hs
      try simp only [List.set_cons_zero, List.set_cons_succ] at hs
      refine R.ev rfl (E.assign rfl) ?_
      refine R.done ?_
      refine X.keep [(2, _), (7, _), (8, _), (9, _)] ⟨rfl, rfl, rfl, rfl, trivial⟩ ?_
      refine X.next ?_
      refine C.seq ?_
      refine C.region ?_
      refine R.ev rfl (E.move rfl) ?_
      refine R.call ⟨_, _, Tryd.func32, rfl, by kernel_rfl⟩ rfl rfl (clone_any hs (by omega)) ?_
      rintro _ w4 ⟨q, F4, rfl, hw4, hs⟩
      refine R.ev rfl (E.assign rfl) ?_
      refine R.done ?_
      refine X.keep [(2, _), (7, _), (8, _), (9, _), (10, _)] ⟨rfl, rfl, rfl, rfl, rfl, trivial⟩ ?_
      refine X.next ?_
      refine C.seq ?_
      refine C.seq ?_
      refine C.region ?_
      refine R.ev rfl (E.move rfl) ?_
      refine R.ev rfl (E.notT rfl) ?_
      refine R.ev rfl (E.move rfl) ?_
      refine R.gyes rfl rfl ?_
      refine R.ev rfl (E.move rfl) ?_
      refine R.gyes rfl rfl ?_
      refine R.ev rfl (E.move rfl) ?_
      refine R.gyes rfl rfl ?_
      refine R.call ⟨_, _, Tryd.func35, rfl, by kernel_rfl⟩ rfl rfl (equal_any (L := st.2) (L' := st.2) (sz := st.1) (sz' := st.1) hs) ?_
      rintro _ w5 ⟨h5, hs⟩
      rw [decide_eq_true ⟨rfl, rfl⟩] at h5
      subst h5
      refine R.gyes rfl rfl ?_
      refine R.ev rfl (E.notT rfl) ?_
      refine R.ev rfl (E.pickF rfl rfl) ?_
      refine R.ev rfl (E.move rfl) ?_
      refine R.gyes rfl rfl ?_
      refine R.ev rfl (E.move rfl) ?_
      refine R.gyes rfl rfl ?_
      refine R.ev rfl (E.move rfl) ?_
      refine R.gyes rfl rfl ?_
      refine R.call ⟨_, _, Tryd.func35, rfl, by kernel_rfl⟩ rfl rfl (equal_any (L := st.2) (L' := st.2) (sz := st.1) (sz' := st.1) hs) ?_
      rintro _ w5 ⟨h5, hs⟩
      rw [decide_eq_true ⟨rfl, rfl⟩] at h5
      subst h5
      refine R.gyes rfl rfl ?_
      refine R.ev rfl (E.notT rfl) ?_
      refine R.ev rfl (E.pickF rfl rfl) ?_
      refine R.done ?_
      refine X.keep [(2, _), (7, _), (8, _), (10, _), (57, _)] ⟨rfl, rfl, rfl, rfl, rfl, trivial⟩ ?_
      refine X.next ?_
      refine C.cfalse rfl ?_
      refine C.skip ?_
      refine X.next ?_
      refine C.seq ?_
      refine C.region ?_
      refine R.ev rfl (E.loadRowC rfl Tryd.underlying58 rfl Tryd.sz58 (by first | exact ⟨hs.ldA, by first | rfl | assumption | exact Enc.len _ | exact len_ub (by assumption)⟩ | exact ⟨hs.ldP rfl, by first | rfl | assumption | exact Enc.len _ | exact len_ub (by assumption)⟩ | exact ⟨hs.ldM rfl rfl, by first | rfl | assumption | exact Enc.len _ | exact len_ub (by assumption)⟩ | exact ⟨hs.ldM (by assumption) (by first | rfl | assumption), by first | rfl | assumption | exact Enc.len _ | exact len_ub (by assumption)⟩ | exact ⟨by assumption, by first | rfl | assumption | exact Enc.len _ | exact len_ub (by assumption)⟩ | exact hs.ldp | exact At.partC (by assumption))) ?_
      refine R.sallocA hs Tryd.zr58 rfl ?_
      intro b11 w11 hs
      first | refine R.cstoreAll hs rfl rfl Tryd.sz58 (by first | rfl | assumption | exact Enc.len _ | exact len_ub (by assumption) | simp [*]) (by first | rfl | assumption | exact Enc.len _ | exact len_ub (by assumption) | simp [*]) (by first | assumption | exact OneL.all | exact Enc.one _ | exact ub_all _ | (repeat' (first | refine List.forall_mem_cons.2 ⟨?_, ?_⟩ | exact List.forall_mem_nil _ | rfl | exact OneC.one | exact KRow.oneC' (by assumption)))) ?_ | refine R.cstore hs rfl rfl Tryd.sz58 (by first | rfl | assumption | exact Enc.len _ | exact len_ub (by assumption) | simp [*]) (by simp [*]) (by first | assumption | exact OneL.all | exact Enc.one _ | exact ub_all _ | (repeat' (first | refine List.forall_mem_cons.2 ⟨?_, ?_⟩ | exact List.forall_mem_nil _ | rfl | exact OneC.one | exact KRow.oneC' (by assumption)))) ?_
      intro w7_2 hs
      try simp only [List.set_cons_zero, List.set_cons_succ] at hs
      refine R.done ?_
      refine X.keep [(2, _), (7, _), (8, _), (10, _), (11, _)] ⟨rfl, rfl, rfl, rfl, rfl, trivial⟩ ?_
      refine X.next ?_
      refine C.seq ?_
      refine C.seq ?_
      refine C.region ?_
      refine R.ev rfl (E.assign rfl) ?_
      refine R.done ?_
      refine X.keep [(2, _), (7, _), (8, _), (10, _), (11, _), (12, _)] ⟨rfl, rfl, rfl, rfl, rfl, rfl, trivial⟩ ?_
      refine X.next ?_
      refine C.block ?_
      refine C.loop (T := Nat × Kn × Value × Hl) [(2, _), (7, _), (8, _), (10, _), (11, _)] (fun (k, _, _, _) => [(12, .int .i64 (k : Nat))]) (fun (k, K2, v, F') w' => k ≤ ops2.length ∧ KLe K1 K2 ∧ Win q (run st (ops2.take k)).1 (run st (ops2.take k)).2 F' ∧ KRow encO 34 K2 v (run st (ops2.take k)).2 ∧ Sat K2 w' (row b11 58 [.int .i64 (run st (ops2.take k)).1, v] :: F' :: row b8 58 [.int .i64 st.1, .slice ad3 st.2.length cap3] :: F :: [])) (fun (k, _) => ops2.length - k) ((0, K1, .slice ad3 st.2.length cap3, F4)) ⟨rfl, rfl, rfl, rfl, rfl, rfl, trivial⟩ ⟨by omega, KLe.refl _, hw4, hr1, hs⟩ ?_
      rintro ⟨k, K2, v, F1⟩ w1 ⟨hk, hk2, hw1, hr1', hs⟩
      have hlen2 := run_len (ops2.take k) st
      have hinv2 := run_inv (s := st) hinv (ops2.take k)
      have hsn := fun o h => run_snoc (s := st) (ops := ops2) (k := k) (o := o) h
      generalize hst2 : run st (ops2.take k) = st2 at hw1 hr1' hs hlen2 hsn hinv2
      simp at hlen2
      refine C.keep [(2, _), (7, _), (8, _), (10, _), (11, _), (12, _)] ⟨rfl, rfl, rfl, rfl, rfl, rfl, trivial⟩ ?_
      refine C.seq ?_
      refine C.seq ?_
      refine C.region ?_
      refine R.ev rfl (E.move rfl) ?_
      refine R.ev rfl (E.move rfl) ?_
      refine R.ev rfl (E.lenSl rfl Tryd.underlying49) ?_
      refine R.ev rfl (E.lss rfl rfl) ?_
      refine R.done ?_
      refine X.keep [(2, _), (7, _), (8, _), (10, _), (11, _), (12, _), (62, _)] ⟨rfl, rfl, rfl, rfl, rfl, rfl, rfl, trivial⟩ ?_
      refine X.next ?_
      refine C.cdec rfl (fun h62 => ?_) (fun h62 => ?_)
      · obtain ⟨y, bk_y, of_y, hy, my, ly, rfl, Ay⟩ := hs.el (i := k) (ad := ad2) (n := ops2.length) (c := cap2) (by omega)
        have ay := Ay _ hs
        refine C.skip ?_
        refine X.next ?_
        refine C.seq ?_
        refine C.block ?_
        refine C.seq ?_
        refine C.region ?_
        refine R.ev rfl (E.move rfl) ?_
        refine R.ev rfl (E.move rfl) ?_
        refine R.ev rfl (E.move rfl) ?_
        refine R.ev rfl (E.indexAddr rfl rfl Tryd.underlying49 Tryd.sz51 rfl (by first | omega | decide)) ?_
        refine R.ev rfl (E.loadRowC rfl Tryd.underlying51 rfl Tryd.sz51 (by first | exact ⟨hs.ldA, by first | rfl | assumption | exact Enc.len _ | exact len_ub (by assumption)⟩ | exact ⟨hs.ldP rfl, by first | rfl | assumption | exact Enc.len _ | exact len_ub (by assumption)⟩ | exact ⟨hs.ldM rfl rfl, by first | rfl | assumption | exact Enc.len _ | exact len_ub (by assumption)⟩ | exact ⟨hs.ldM (by assumption) (by first | rfl | assumption), by first | rfl | assumption | exact Enc.len _ | exact len_ub (by assumption)⟩ | exact ⟨by assumption, by first | rfl | assumption | exact Enc.len _ | exact len_ub (by assumption)⟩ | exact hs.ldp | exact At.partC (by assumption))) ?_
        refine R.call ⟨_, _, Tryd.func24, rfl, by kernel_rfl⟩ rfl rfl (perform_any y (hs.front (F := F1)) (by omega)) ?_
        rintro _ w9 ⟨K3, v91, v92, F2, rfl, hk3, hr91, hr92, hw2, hs1⟩
        have hs := hs.back (F := F1) hs1
        replace Ay := hs.elAt (b := bk_y) (off := of_y) (n := ops2.length) (cap2) hy
        have ay := Ay _ hs
        refine R.ev rfl (E.move rfl) ?_
        refine R.ev rfl (E.extract rfl rfl) ?_
        refine R.ev rfl (E.extract rfl rfl) ?_
        refine R.ev rfl (E.extract rfl rfl) ?_
        refine R.ev rfl (E.assign rfl) ?_
        refine R.ev rfl (E.assign rfl) ?_
        refine R.ev rfl (E.assign rfl) ?_
        refine R.done ?_
        refine X.keep [(2, _), (7, _), (8, _), (10, _), (11, _), (12, _), (13, _), (14, _), (15, _)] ⟨rfl, rfl, rfl, rfl, rfl, rfl, rfl, rfl, rfl, trivial⟩ ?_
        refine X.next ?_
        refine C.seq ?_
        refine C.cut [(2, _), (7, _), (8, _), (10, _), (11, _), (12, _), (13, _), (14, _), (15, _)] (fun ((b, _, _, v1, v2) : Nat × Kn × Value × Value × Value) => [(16, ptr b), (17, .int .i64 (pE st2.1 st2.2 y)), (18, v1), (19, v2)]) (fun (b, K4, v', v1, v2) w' => KLe K3 K4 ∧ KRow encO 34 K4 v' (pL st2.1 st2.2 y) ∧ KRow encR 33 K4 v1 (pR st2.2 y) ∧ KRow encV 32 K4 v2 (pD st2.2 y) ∧ Sat K4 w' (row b 58 [.int .i64 (pS st2.1 y), v'] :: row b11 58 [.int .i64 st2.1, v] :: F2 :: row b8 58 [.int .i64 st.1, .slice ad3 st.2.length cap3] :: F :: [])) ⟨rfl, rfl, rfl, rfl, rfl, rfl, rfl, rfl, rfl, trivial⟩ ?_ ?_
        · refine C.drawn (SatS hs) ([0, 4], [1, 2, 3, 6, 7, 8, 9, 10, 13, 14, 15]) (by kernel_rfl) ?_
          have hs := hs.drew
          refine D.evP 1 rfl (by kernel_rfl) rfl (fun _ => hs.to) (fun _ => E.move rfl) ?_
          refine D.evP 2 rfl (by kernel_rfl) rfl (fun _ => hs.to) (fun _ => E.move rfl) ?_
          refine D.evP 3 rfl (by kernel_rfl) rfl (fun _ => hs.to) (fun _ => E.indexAddr rfl rfl Tryd.underlying49 Tryd.sz51 rfl (by first | omega | decide)) ?_
          refine D.ev 0 rfl (by kernel_rfl) rfl hs.to (fun _ hS => E.loadRowC rfl Tryd.underlying58 rfl Tryd.sz58 (by first | exact ⟨hS.ldA, by first | rfl | assumption | exact Enc.len _ | exact len_ub (by assumption)⟩ | exact ⟨hS.ldP rfl, by first | rfl | assumption | exact Enc.len _ | exact len_ub (by assumption)⟩ | exact ⟨hS.ldM rfl rfl, by first | rfl | assumption | exact Enc.len _ | exact len_ub (by assumption)⟩ | exact ⟨hS.ldM (by assumption) (by first | rfl | assumption), by first | rfl | assumption | exact Enc.len _ | exact len_ub (by assumption)⟩ | exact ⟨by assumption, by first | rfl | assumption | exact Enc.len _ | exact len_ub (by assumption)⟩ | exact ⟨(by assumption : ∀ w', Sat _ w' _ → At w' _ _ _) _ hS, by first | rfl | assumption | exact Enc.len _ | exact len_ub (by assumption)⟩ | exact hS.ldp | exact At.partC (by assumption) | exact At.partC ((by assumption : ∀ w', Sat _ w' _ → At w' _ _ _) _ hS))) ?_
          refine D.ev 4 rfl (by kernel_rfl) rfl hs.to (fun _ hS => E.loadRowC rfl Tryd.underlying51 rfl Tryd.sz51 (by first | exact ⟨hS.ldA, by first | rfl | assumption | exact Enc.len _ | exact len_ub (by assumption)⟩ | exact ⟨hS.ldP rfl, by first | rfl | assumption | exact Enc.len _ | exact len_ub (by assumption)⟩ | exact ⟨hS.ldM rfl rfl, by first | rfl | assumption | exact Enc.len _ | exact len_ub (by assumption)⟩ | exact ⟨hS.ldM (by assumption) (by first | rfl | assumption), by first | rfl | assumption | exact Enc.len _ | exact len_ub (by assumption)⟩ | exact ⟨by assumption, by first | rfl | assumption | exact Enc.len _ | exact len_ub (by assumption)⟩ | exact ⟨(by assumption : ∀ w', Sat _ w' _ → At w' _ _ _) _ hS, by first | rfl | assumption | exact Enc.len _ | exact len_ub (by assumption)⟩ | exact hS.ldp | exact At.partC (by assumption) | exact At.partC ((by assumption : ∀ w', Sat _ w' _ → At w' _ _ _) _ hS))) ?_
          refine D.act2 5 11 rfl rfl (by kernel_rfl) ?_ ?_
          · refine R.call ⟨_, _, Tryd.func29, rfl, by kernel_rfl⟩ rfl rfl (do_any (sz := st2.1) (L := st2.2) y hs (by omega)) ?_
            rintro _ w12 ⟨K4, v', v1, v2, rfl, hk4, hr4, hr5, hr6, hs⟩
            refine D.backT (by kernel_rfl) ?_
            refine D.evP 6 rfl (by kernel_rfl) rfl (np (by kernel_rfl)) (fun _ => E.move rfl) ?_
            refine D.evP 7 rfl (by kernel_rfl) rfl (np (by kernel_rfl)) (fun _ => E.extract rfl rfl) ?_
            refine D.evP 8 rfl (by kernel_rfl) rfl (np (by kernel_rfl)) (fun _ => E.extract rfl rfl) ?_
            refine D.evP 9 rfl (by kernel_rfl) rfl (np (by kernel_rfl)) (fun _ => E.extract rfl rfl) ?_
            refine D.evP 10 rfl (by kernel_rfl) rfl (np (by kernel_rfl)) (fun _ => E.extract rfl rfl) ?_
            refine D.act 11 rfl (by kernel_rfl) ?_
            refine R.sallocA hs Tryd.zr58 rfl ?_
            intro b16 w16 hs
            refine D.backT (by kernel_rfl) ?_
            refine D.act 12 rfl (by kernel_rfl) ?_
            first | refine R.cstoreAll hs rfl rfl Tryd.sz58 (by first | rfl | assumption | exact Enc.len _ | exact len_ub (by assumption) | simp [*]) (by first | rfl | assumption | exact Enc.len _ | exact len_ub (by assumption) | simp [*]) (by first | assumption | exact OneL.all | exact Enc.one _ | exact ub_all _ | (repeat' (first | refine List.forall_mem_cons.2 ⟨?_, ?_⟩ | exact List.forall_mem_nil _ | rfl | exact OneC.one | exact KRow.oneC' (by assumption)))) ?_ | refine R.cstore hs rfl rfl Tryd.sz58 (by first | rfl | assumption | exact Enc.len _ | exact len_ub (by assumption) | simp [*]) (by simp [*]) (by first | assumption | exact OneL.all | exact Enc.one _ | exact ub_all _ | (repeat' (first | refine List.forall_mem_cons.2 ⟨?_, ?_⟩ | exact List.forall_mem_nil _ | rfl | exact OneC.one | exact KRow.oneC' (by assumption)))) ?_
            intro w12_12 hs
            try simp only [List.set_cons_zero, List.set_cons_succ] at hs
            refine D.backT (by kernel_rfl) ?_
            refine D.evP 13 rfl (by kernel_rfl) rfl (np (by kernel_rfl)) (fun _ => E.assign rfl) ?_
            refine D.evP 14 rfl (by kernel_rfl) rfl (np (by kernel_rfl)) (fun _ => E.assign rfl) ?_
            refine D.evP 15 rfl (by kernel_rfl) rfl (np (by kernel_rfl)) (fun _ => E.assign rfl) ?_
            refine D.done rfl (by kernel_rfl) ?_
            refine X.keep [(2, _), (7, _), (8, _), (10, _), (11, _), (12, _), (13, _), (14, _), (15, _), (16, _), (17, _), (18, _), (19, _)] ⟨rfl, rfl, rfl, rfl, rfl, rfl, rfl, rfl, rfl, rfl, rfl, rfl, rfl, trivial⟩ ?_
            refine X.cut ((b16, K4, v', v1, v2)) ⟨lkV rfl ?_, lkV rfl ?_, lkV rfl ?_, lkV rfl ?_, rfl, rfl, rfl, rfl, rfl, rfl, rfl, rfl, rfl, trivial⟩ ?_
            · rfl
            · rfl
            · rfl
            · rfl
            · exact ⟨hk4, hr4, hr5, hr6, hs.to⟩
          · refine R.sallocA hs Tryd.zr58 rfl ?_
            intro b16 w16 hs
            refine D.back hs.to ?_
            refine D.act 5 rfl (by kernel_rfl) ?_
            refine R.call ⟨_, _, Tryd.func29, rfl, by kernel_rfl⟩ rfl rfl (do_any (sz := st2.1) (L := st2.2) y hs (by omega)) ?_
            rintro _ w12 ⟨K4, v', v1, v2, rfl, hk4, hr4, hr5, hr6, hs⟩
            refine D.backT (by kernel_rfl) ?_
            refine D.evP 6 rfl (by kernel_rfl) rfl (np (by kernel_rfl)) (fun _ => E.move rfl) ?_
            refine D.evP 7 rfl (by kernel_rfl) rfl (np (by kernel_rfl)) (fun _ => E.extract rfl rfl) ?_
            refine D.evP 8 rfl (by kernel_rfl) rfl (np (by kernel_rfl)) (fun _ => E.extract rfl rfl) ?_
            refine D.evP 9 rfl (by kernel_rfl) rfl (np (by kernel_rfl)) (fun _ => E.extract rfl rfl) ?_
            refine D.evP 10 rfl (by kernel_rfl) rfl (np (by kernel_rfl)) (fun _ => E.extract rfl rfl) ?_
            refine D.act 12 rfl (by kernel_rfl) ?_
            first | refine R.cstoreAll hs rfl rfl Tryd.sz58 (by first | rfl | assumption | exact Enc.len _ | exact len_ub (by assumption) | simp [*]) (by first | rfl | assumption | exact Enc.len _ | exact len_ub (by assumption) | simp [*]) (by first | assumption | exact OneL.all | exact Enc.one _ | exact ub_all _ | (repeat' (first | refine List.forall_mem_cons.2 ⟨?_, ?_⟩ | exact List.forall_mem_nil _ | rfl | exact OneC.one | exact KRow.oneC' (by assumption)))) ?_ | refine R.cstore hs rfl rfl Tryd.sz58 (by first | rfl | assumption | exact Enc.len _ | exact len_ub (by assumption) | simp [*]) (by simp [*]) (by first | assumption | exact OneL.all | exact Enc.one _ | exact ub_all _ | (repeat' (first | refine List.forall_mem_cons.2 ⟨?_, ?_⟩ | exact List.forall_mem_nil _ | rfl | exact OneC.one | exact KRow.oneC' (by assumption)))) ?_
            intro w12_12 hs
            try simp only [List.set_cons_zero, List.set_cons_succ] at hs
            refine D.backT (by kernel_rfl) ?_
            refine D.evP 13 rfl (by kernel_rfl) rfl (np (by kernel_rfl)) (fun _ => E.assign rfl) ?_
            refine D.evP 14 rfl (by kernel_rfl) rfl (np (by kernel_rfl)) (fun _ => E.assign rfl) ?_
            refine D.evP 15 rfl (by kernel_rfl) rfl (np (by kernel_rfl)) (fun _ => E.assign rfl) ?_
            refine D.done rfl (by kernel_rfl) ?_
            refine X.keep [(2, _), (7, _), (8, _), (10, _), (11, _), (12, _), (13, _), (14, _), (15, _), (16, _), (17, _), (18, _), (19, _)] ⟨rfl, rfl, rfl, rfl, rfl, rfl, rfl, rfl, rfl, rfl, rfl, rfl, rfl, trivial⟩ ?_
            refine X.cut ((b16, K4, v', v1, v2)) ⟨lkV rfl ?_, lkV rfl ?_, lkV rfl ?_, lkV rfl ?_, rfl, rfl, rfl, rfl, rfl, rfl, rfl, rfl, rfl, trivial⟩ ?_
            · rfl
            · rfl
            · rfl
            · rfl
            · exact ⟨hk4, hr4, hr5, hr6, hs.to⟩
        · rintro ⟨b16, K4, v', v1, v2⟩ w12 ⟨hk4, hr4, hr5, hr6, hs⟩
          refine X.keep [(2, _), (7, _), (8, _), (10, _), (11, _), (12, _), (13, _), (14, _), (15, _), (16, _), (17, _), (18, _), (19, _)] ⟨rfl, rfl, rfl, rfl, rfl, rfl, rfl, rfl, rfl, rfl, rfl, rfl, rfl, trivial⟩ ?_
          refine X.next ?_
          refine C.seq ?_
          refine C.seq ?_
          refine C.region ?_
          refine R.ev rfl (E.move rfl) ?_
          refine R.ev rfl (E.move rfl) ?_
          refine R.ev rfl ((E.neq rfl rfl).isF (by simp)) ?_
          refine R.ev rfl (E.move rfl) ?_
          refine R.gyes rfl rfl ?_
          refine R.ev rfl (E.move rfl) ?_
          refine R.gyes rfl rfl ?_
          refine R.ev rfl (E.move rfl) ?_
          refine R.gyes rfl rfl ?_
          refine R.call ⟨_, _, Tryd.func19, rfl, by kernel_rfl⟩ rfl rfl (results_any (L := pR st2.2 y) (M := pR st2.2 y) hs (by have := pR_len st2.2 y; omega)) ?_
          rintro _ w11 ⟨h11, hs⟩
          rw [decide_eq_true rfl] at h11
          subst h11
          refine R.gyes rfl rfl ?_
          refine R.ev rfl (E.notT rfl) ?_
          refine R.ev rfl (E.pickF rfl rfl) ?_
          refine R.ev rfl (E.move rfl) ?_
          refine R.gyes rfl rfl ?_
          refine R.ev rfl (E.move rfl) ?_
          refine R.gyes rfl rfl ?_
          refine R.ev rfl (E.move rfl) ?_
          refine R.gyes rfl rfl ?_
          refine R.call ⟨_, _, Tryd.func27, rfl, by kernel_rfl⟩ rfl rfl (ids_any (L := pD st2.2 y) (M := pD st2.2 y) hs (by have := pD_len st2.2 y; omega)) ?_
          rintro _ w12 ⟨h12, hs⟩
          rw [decide_eq_true rfl] at h12
          subst h12
          refine R.gyes rfl rfl ?_
          refine R.ev rfl (E.notT rfl) ?_
          refine R.ev rfl (E.pickF rfl rfl) ?_
          refine R.done ?_
          refine X.keep [(2, _), (7, _), (8, _), (10, _), (11, _), (12, _), (16, _), (100, _)] ⟨rfl, rfl, rfl, rfl, rfl, rfl, rfl, rfl, trivial⟩ ?_
          refine X.next ?_
          refine C.cfalse rfl ?_
          refine C.skip ?_
          refine X.next ?_
          refine C.region ?_
          refine R.ev rfl (E.loadRowC rfl Tryd.underlying58 rfl Tryd.sz58 (by first | exact ⟨hs.ldA, by first | rfl | assumption | exact Enc.len _ | exact len_ub (by assumption)⟩ | exact ⟨hs.ldP rfl, by first | rfl | assumption | exact Enc.len _ | exact len_ub (by assumption)⟩ | exact ⟨hs.ldM rfl rfl, by first | rfl | assumption | exact Enc.len _ | exact len_ub (by assumption)⟩ | exact ⟨hs.ldM (by assumption) (by first | rfl | assumption), by first | rfl | assumption | exact Enc.len _ | exact len_ub (by assumption)⟩ | exact ⟨by assumption, by first | rfl | assumption | exact Enc.len _ | exact len_ub (by assumption)⟩ | exact hs.ldp | exact At.partC (by assumption))) ?_
          first | refine R.cstoreAll hs rfl rfl Tryd.sz58 (by first | rfl | assumption | exact Enc.len _ | exact len_ub (by assumption) | simp [*]) (by first | rfl | assumption | exact Enc.len _ | exact len_ub (by assumption) | simp [*]) (by first | assumption | exact OneL.all | exact Enc.one _ | exact ub_all _ | (repeat' (first | refine List.forall_mem_cons.2 ⟨?_, ?_⟩ | exact List.forall_mem_nil _ | rfl | exact OneC.one | exact KRow.oneC' (by assumption)))) ?_ | refine R.cstore hs rfl rfl Tryd.sz58 (by first | rfl | assumption | exact Enc.len _ | exact len_ub (by assumption) | simp [*]) (by simp [*]) (by first | assumption | exact OneL.all | exact Enc.one _ | exact ub_all _ | (repeat' (first | refine List.forall_mem_cons.2 ⟨?_, ?_⟩ | exact List.forall_mem_nil _ | rfl | exact OneC.one | exact KRow.oneC' (by assumption)))) ?_
          intro w15_1 hs
          try simp only [List.set_cons_zero, List.set_cons_succ] at hs
          refine R.done ?_
          refine X.keep [(2, _), (7, _), (8, _), (10, _), (11, _), (12, _)] ⟨rfl, rfl, rfl, rfl, rfl, rfl, trivial⟩ ?_
          refine X.blockNormal ?_
          refine X.next ?_
          refine C.region ?_
          refine R.ev rfl (E.move rfl) ?_
          refine R.ev rfl (E.add rfl rfl (by omega) (by omega)) ?_
          refine R.ev rfl (E.assign rfl) ?_
          refine R.done ?_
          refine X.keep [(2, _), (7, _), (8, _), (10, _), (11, _), (12, _)] ⟨rfl, rfl, rfl, rfl, rfl, rfl, trivial⟩ ?_
          have e := hsn y hy
          exact X.again (k + 1, K4, v', F2) ⟨rfl, rfl, rfl, rfl, rfl, rfl, trivial⟩ ⟨by omega, (hk2.trans hk3).trans hk4, by rw [e]; exact hw2, by rw [e]; exact hr4, by rw [e]; exact hs.to⟩ (by show _ - _ < _ - _; omega)
      · obtain ⟨ad4, cap4, rfl, _, _⟩ := hr1'.ex
        have hk12 := hk1.trans hk2
        refine C.exit ?_
        refine X.thenExit ?_
        refine X.loopExit ?_
        refine X.blockExit ?_
        refine X.next ?_
        refine C.seq ?_
        refine C.cut [(7, _), (8, _), (10, _), (11, _)] (fun (_ : Unit) => [(20, .bool (decide (st.1 = st2.1) && decide (st.2.length = st2.2.length)))]) (fun _ w' => Sat K2 w' (row b11 58 [.int .i64 st2.1, .slice ad4 st2.2.length cap4] :: F1 :: row b8 58 [.int .i64 st.1, .slice ad3 st.2.length cap3] :: F :: [])) ⟨rfl, rfl, rfl, rfl, trivial⟩ ?_ ?_
        · refine C.region ?_
          first | refine R.ev rfl (E.fieldAddr0 0 rfl Tryd.underlying58 rfl Tryd.sz3 rfl) ?_ | refine R.ev rfl (E.fieldAddrN 0 rfl Tryd.underlying58 rfl Tryd.sz3 rfl) ?_
          refine R.ev rfl (E.load1 rfl Tryd.underlying3 rfl (by first | exact hs.ldc | exact hs.ld rfl | exact hs.ld (by assumption) | exact by assumption | exact At.cellC (by assumption))) ?_
          first | refine R.ev rfl (E.fieldAddr0 0 rfl Tryd.underlying58 rfl Tryd.sz3 rfl) ?_ | refine R.ev rfl (E.fieldAddrN 0 rfl Tryd.underlying58 rfl Tryd.sz3 rfl) ?_
          refine R.ev rfl (E.load1 rfl Tryd.underlying3 rfl (by first | exact hs.ldc | exact hs.ld rfl | exact hs.ld (by assumption) | exact by assumption | exact At.cellC (by assumption))) ?_
          refine R.ev rfl (E.eql rfl rfl) ?_
          refine R.ev rfl (E.move rfl) ?_
          refine R.split 107 rfl (fun h107 => ?_) (fun h107 => ?_)
          · refine R.gyes rfl rfl ?_
            first | refine R.ev rfl (E.fieldAddr0 1 rfl Tryd.underlying58 rfl Tryd.sz56 rfl) ?_ | refine R.ev rfl (E.fieldAddrN 1 rfl Tryd.underlying58 rfl Tryd.sz56 rfl) ?_
            refine R.gyes rfl rfl ?_
            refine R.ev rfl (E.load1 rfl Tryd.underlying56 rfl (by first | exact hs.ldc | exact hs.ld rfl | exact hs.ld (by assumption) | exact by assumption | exact At.cellC (by assumption))) ?_
            refine R.gyes rfl rfl ?_
            refine R.ev rfl (E.lenSl rfl Tryd.underlying56) ?_
            refine R.gyes rfl rfl ?_
            first | refine R.ev rfl (E.fieldAddr0 1 rfl Tryd.underlying58 rfl Tryd.sz56 rfl) ?_ | refine R.ev rfl (E.fieldAddrN 1 rfl Tryd.underlying58 rfl Tryd.sz56 rfl) ?_
            refine R.gyes rfl rfl ?_
            refine R.ev rfl (E.load1 rfl Tryd.underlying56 rfl (by first | exact hs.ldc | exact hs.ld rfl | exact hs.ld (by assumption) | exact by assumption | exact At.cellC (by assumption))) ?_
            refine R.gyes rfl rfl ?_
            refine R.ev rfl (E.lenSl rfl Tryd.underlying56) ?_
            refine R.gyes rfl rfl ?_
            refine R.ev rfl (E.eql rfl rfl) ?_
            refine R.ev rfl (E.pickT rfl rfl) ?_
            refine R.ev rfl (E.assign rfl) ?_
            refine R.done ?_
            refine X.keep [(7, _), (8, _), (10, _), (11, _), (20, _)] ⟨rfl, rfl, rfl, rfl, rfl, trivial⟩ ?_
            refine X.cut (()) ⟨lkV rfl ?_, rfl, rfl, rfl, rfl, trivial⟩ ?_
            · first | (simp_all; done) | (simp_all; omega)
            · exact hs
          · refine R.gskip rfl rfl rfl ?_
            refine R.gskip rfl rfl rfl ?_
            refine R.gskip rfl rfl rfl ?_
            refine R.gskip rfl rfl rfl ?_
            refine R.gskip rfl rfl rfl ?_
            refine R.gskip rfl rfl rfl ?_
            refine R.gskip rfl rfl rfl ?_
            refine R.ev rfl (E.pickF rfl rfl) ?_
            refine R.ev rfl (E.assign rfl) ?_
            refine R.done ?_
            refine X.keep [(7, _), (8, _), (10, _), (11, _), (20, _)] ⟨rfl, rfl, rfl, rfl, rfl, trivial⟩ ?_
            refine X.cut (()) ⟨lkV rfl ?_, rfl, rfl, rfl, rfl, trivial⟩ ?_
            · first | (simp_all; done) | (simp_all; omega)
            · exact hs
        · rintro _ w16 hs
          refine X.keep [(7, _), (8, _), (10, _), (11, _), (20, _)] ⟨rfl, rfl, rfl, rfl, rfl, trivial⟩ ?_
          refine X.next ?_
          refine C.seq ?_
          refine C.seq ?_
          refine C.region ?_
          refine R.ev rfl (E.assign rfl) ?_
          refine R.done ?_
          refine X.keep [(7, _), (8, _), (10, _), (11, _), (20, _), (21, _)] ⟨rfl, rfl, rfl, rfl, rfl, rfl, trivial⟩ ?_
          refine X.next ?_
          refine C.block ?_
          refine C.loop (T := Nat × Bool) [(7, _), (8, _), (10, _), (11, _)] (fun (k, e) => [(20, .bool e), (21, .int .i64 (k : Nat))]) (fun (k, e) w' => (e = true → st.1 = st2.1 ∧ st.2.length = st2.2.length ∧ k ≤ st.2.length ∧ st.2.take k = st2.2.take k) ∧ (e = false → ¬ (st = st2)) ∧ Sat K2 w' (row b11 58 [.int .i64 st2.1, .slice ad4 st2.2.length cap4] :: F1 :: row b8 58 [.int .i64 st.1, .slice ad3 st.2.length cap3] :: F :: [])) (fun (k, e) => if e then st.2.length + 1 - k else 0) ((0, _)) ⟨rfl, rfl, rfl, rfl, rfl, rfl, trivial⟩ ⟨fun h => by simp at h; exact ⟨h.1, h.2, by omega, rfl⟩, fun h he => by simp at h; rw [he] at h; simp at h, hs⟩ ?_
          rintro ⟨j, e⟩ w17 ⟨hT, hF, hs⟩
          refine C.keep [(7, _), (8, _), (10, _), (11, _), (20, _), (21, _)] ⟨rfl, rfl, rfl, rfl, rfl, rfl, trivial⟩ ?_
          refine C.seq ?_
          refine C.seq ?_
          refine C.region ?_
          refine R.ev rfl (E.move rfl) ?_
          refine R.ev rfl (E.move rfl) ?_
          refine R.split 117 rfl (fun h117 => ?_) (fun h117 => ?_)
          · refine R.gyes rfl rfl ?_
            refine R.ev rfl (E.move rfl) ?_
            refine R.gyes rfl rfl ?_
            first | refine R.ev rfl (E.fieldAddr0 1 rfl Tryd.underlying58 rfl Tryd.sz56 rfl) ?_ | refine R.ev rfl (E.fieldAddrN 1 rfl Tryd.underlying58 rfl Tryd.sz56 rfl) ?_
            refine R.gyes rfl rfl ?_
            refine R.ev rfl (E.load1 rfl Tryd.underlying56 rfl (by first | exact hs.ldc | exact hs.ld rfl | exact hs.ld (by assumption) | exact by assumption | exact At.cellC (by assumption))) ?_
            refine R.gyes rfl rfl ?_
            refine R.ev rfl (E.lenSl rfl Tryd.underlying56) ?_
            refine R.gyes rfl rfl ?_
            refine R.ev rfl (E.lss rfl rfl) ?_
            refine R.ev rfl (E.pickT rfl rfl) ?_
            refine R.done ?_
            refine X.keep [(7, _), (8, _), (10, _), (11, _), (20, _), (21, _), (123, _)] ⟨rfl, rfl, rfl, rfl, rfl, rfl, rfl, trivial⟩ ?_
            refine X.next ?_
            refine C.cbool rfl (fun h123 => ?_) (fun h123 => ?_)
            · refine C.skip ?_
              refine X.next ?_
              refine C.seq ?_
              refine C.block ?_
              refine C.drawn (SatS hs) ([1, 4, 6, 9], [0, 2, 3, 5, 7, 8, 10, 11]) (by kernel_rfl) ?_
              have hs := hs.drew
              obtain ⟨g1, g2, g3, g4⟩ := hT h117
              have hjl : j < st.2.length := by simpa using h123
              obtain ⟨y2, bk_y2, of_y2, hy2, my2, ly2, rfl, Ay2⟩ := hs.el (i := j) (ad := ad3) (n := st.2.length) (c := cap3) (by omega)
              have ay2 := Ay2 _ hs
              obtain ⟨z2, bk_z2, of_z2, hz2, mz2, lz2, rfl, Az2⟩ := hs.el (i := j) (ad := ad4) (n := st2.2.length) (c := cap4) (by omega)
              have az2 := Az2 _ hs
              have hfy := encO_fits y2 ly2
              have hfz := encO_fits z2 lz2
              first | refine D.evP 0 rfl (by kernel_rfl) rfl (fun _ => hs.to) (fun _ => E.fieldAddr0 1 rfl Tryd.underlying58 rfl Tryd.sz56 rfl) ?_ | refine D.evP 0 rfl (by kernel_rfl) rfl (fun _ => hs.to) (fun _ => E.fieldAddrN 1 rfl Tryd.underlying58 rfl Tryd.sz56 rfl) ?_
              refine D.evP 2 rfl (by kernel_rfl) rfl (fun _ => hs.to) (fun _ => E.move rfl) ?_
              first | refine D.evP 5 rfl (by kernel_rfl) rfl (fun _ => hs.to) (fun _ => E.fieldAddr0 1 rfl Tryd.underlying58 rfl Tryd.sz56 rfl) ?_ | refine D.evP 5 rfl (by kernel_rfl) rfl (fun _ => hs.to) (fun _ => E.fieldAddrN 1 rfl Tryd.underlying58 rfl Tryd.sz56 rfl) ?_
              refine D.evP 7 rfl (by kernel_rfl) rfl (fun _ => hs.to) (fun _ => E.move rfl) ?_
              refine D.ev 1 rfl (by kernel_rfl) rfl hs.to (fun _ hS => E.load1 rfl Tryd.underlying56 rfl (by first | exact hS.ldc | exact hS.ld rfl | exact hS.ld (by assumption) | exact by assumption | exact At.cellC (by assumption) | exact At.cellC ((by assumption : ∀ w', Sat _ w' _ → At w' _ _ _) _ hS) | exact (by assumption : ∀ w', Sat _ w' _ → World.cell? w' _ = some _) _ hS)) ?_
              refine D.evP 3 rfl (by kernel_rfl) rfl (fun _ => hs.to) (fun _ => E.indexAddr rfl rfl Tryd.underlying56 Tryd.sz73 rfl (by first | omega | decide)) ?_
              refine D.ev 4 rfl (by kernel_rfl) rfl hs.to (fun _ hS => E.loadRow rfl Tryd.underlying73 rfl Tryd.sz73 (Ay2 _ hS) ly2) ?_
              refine D.ev 6 rfl (by kernel_rfl) rfl hs.to (fun _ hS => E.load1 rfl Tryd.underlying56 rfl (by first | exact hS.ldc | exact hS.ld rfl | exact hS.ld (by assumption) | exact by assumption | exact At.cellC (by assumption) | exact At.cellC ((by assumption : ∀ w', Sat _ w' _ → At w' _ _ _) _ hS) | exact (by assumption : ∀ w', Sat _ w' _ → World.cell? w' _ = some _) _ hS)) ?_
              refine D.evP 8 rfl (by kernel_rfl) rfl (fun _ => hs.to) (fun _ => E.indexAddr rfl rfl Tryd.underlying56 Tryd.sz73 rfl (by first | omega | decide)) ?_
              refine D.ev 9 rfl (by kernel_rfl) rfl hs.to (fun _ hS => E.loadRow rfl Tryd.underlying73 rfl Tryd.sz73 (Az2 _ hS) lz2) ?_
              refine D.evP 10 rfl (by kernel_rfl) rfl (fun _ => hs.to) (fun _ => (E.eqlAgg 10 rfl rfl Tryd.lv73 rfl Tryd.underlying73 rfl Tryd.gd73 hfy hfz).isB (c := decide (y2 = z2)) (encO_eq ly2 lz2)) ?_
              refine D.evP 11 rfl (by kernel_rfl) rfl (fun _ => hs.to) (fun _ => E.assign rfl) ?_
              refine D.done rfl (by kernel_rfl) ?_
              refine X.keep [(7, _), (8, _), (10, _), (11, _), (20, _), (21, _)] ⟨rfl, rfl, rfl, rfl, rfl, rfl, trivial⟩ ?_
              refine X.blockNormal ?_
              refine X.next ?_
              refine C.region ?_
              refine R.ev rfl (E.move rfl) ?_
              refine R.ev rfl (E.add rfl rfl (by omega) (by omega)) ?_
              refine R.ev rfl (E.assign rfl) ?_
              refine R.done ?_
              refine X.keep [(7, _), (8, _), (10, _), (11, _), (20, _), (21, _)] ⟨rfl, rfl, rfl, rfl, rfl, rfl, trivial⟩ ?_
              refine X.again (j + 1, decide (y2 = z2)) ⟨rfl, rfl, rfl, rfl, rfl, rfl, trivial⟩ ⟨fun h => ?_, fun h he => ?_, hs⟩ ?_
              · have hyz : y2 = z2 := by simpa using h
                exact ⟨g1, g2, by omega, by rw [take_snoc hy2, take_snoc hz2, g4, hyz]⟩
              · have hyz : ¬ y2 = z2 := by simpa using h
                rw [← he] at hz2
                rw [hy2] at hz2
                exact hyz (by simpa using hz2)
              · show (if decide (y2 = z2) = true then _ else _) < (if e = true then _ else _)
                rw [h117]
                split <;> simp <;> omega
            · refine C.exit ?_
              refine X.thenExit ?_
              refine X.loopExit ?_
              refine X.blockExit ?_
              refine X.next ?_
              refine C.seq ?_
              refine C.region ?_
              have hE : e = decide (st.1 = st2.1 ∧ st.2 = st2.2) := by
                cases e with
                | false =>
                  have := hF rfl
                  symm; rw [decide_eq_false_iff_not]
                  intro hh; exact this (Prod.ext hh.1 hh.2)
                | true =>
                  obtain ⟨g1, g2, g3, g4⟩ := hT rfl
                  symm; rw [decide_eq_true_iff]
                  refine ⟨g1, ?_⟩
                  have hj : j = st.2.length := by first | (simp at h123; omega) | simp at h117
                  rw [hj, List.take_length] at g4
                  rw [g4, g2, List.take_length]
              have hE2 : e = decide (st2.1 = st.1 ∧ st2.2 = st.2) := by
                rw [hE, Bool.eq_iff_iff]; simp only [decide_eq_true_eq]
                exact ⟨fun h => ⟨h.1.symm, h.2.symm⟩, fun h => ⟨h.1.symm, h.2.symm⟩⟩
              refine R.ev rfl (E.move rfl) ?_
              refine R.ev rfl (E.loadRowC rfl Tryd.underlying58 rfl Tryd.sz58 (by first | exact ⟨hs.ldA, by first | rfl | assumption | exact Enc.len _ | exact len_ub (by assumption)⟩ | exact ⟨hs.ldP rfl, by first | rfl | assumption | exact Enc.len _ | exact len_ub (by assumption)⟩ | exact ⟨hs.ldM rfl rfl, by first | rfl | assumption | exact Enc.len _ | exact len_ub (by assumption)⟩ | exact ⟨hs.ldM (by assumption) (by first | rfl | assumption), by first | rfl | assumption | exact Enc.len _ | exact len_ub (by assumption)⟩ | exact ⟨by assumption, by first | rfl | assumption | exact Enc.len _ | exact len_ub (by assumption)⟩ | exact hs.ldp | exact At.partC (by assumption))) ?_
              refine R.call ⟨_, _, Tryd.func30, rfl, by kernel_rfl⟩ rfl rfl (same_any (sz := st.1) (L := st.2) hs (by omega) hinv) ?_
              rintro _ w21 ⟨rfl, hs⟩
              refine R.ev rfl (E.move rfl) ?_
              refine R.gyes rfl rfl ?_
              refine R.ev rfl (E.move rfl) ?_
              refine R.gyes rfl rfl ?_
              refine R.ev rfl (E.loadRowC rfl Tryd.underlying58 rfl Tryd.sz58 (by first | exact ⟨hs.ldA, by first | rfl | assumption | exact Enc.len _ | exact len_ub (by assumption)⟩ | exact ⟨hs.ldP rfl, by first | rfl | assumption | exact Enc.len _ | exact len_ub (by assumption)⟩ | exact ⟨hs.ldM rfl rfl, by first | rfl | assumption | exact Enc.len _ | exact len_ub (by assumption)⟩ | exact ⟨hs.ldM (by assumption) (by first | rfl | assumption), by first | rfl | assumption | exact Enc.len _ | exact len_ub (by assumption)⟩ | exact ⟨by assumption, by first | rfl | assumption | exact Enc.len _ | exact len_ub (by assumption)⟩ | exact hs.ldp | exact At.partC (by assumption))) ?_
              refine R.gyes rfl rfl ?_
              refine R.call ⟨_, _, Tryd.func30, rfl, by kernel_rfl⟩ rfl rfl (same_any (sz := st2.1) (L := st2.2) hs (by omega) hinv2) ?_
              rintro _ w22 ⟨rfl, hs⟩
              refine R.ev rfl (E.pickT rfl rfl) ?_
              refine R.ev rfl (E.move rfl) ?_
              refine R.gyes rfl rfl ?_
              refine R.ev rfl (E.move rfl) ?_
              refine R.gyes rfl rfl ?_
              refine R.ev rfl (E.move rfl) ?_
              refine R.gyes rfl rfl ?_
              refine R.call ⟨_, _, Tryd.func35, rfl, by kernel_rfl⟩ rfl rfl (equal_any (L := st2.2) (L' := st.2) (sz := st2.1) (sz' := st.1) hs) ?_
              rintro _ w23 ⟨rfl, hs⟩
              refine R.gyes rfl rfl ?_
              refine R.ev rfl (E.move rfl) ?_
              refine R.gyes rfl rfl ?_
              refine R.ev rfl ((E.eqlB rfl rfl Tryd.underlying4).isB (c := true) (by rw [← hE2]; simp)) ?_
              refine R.ev rfl (E.pickT rfl rfl) ?_
              refine R.ev rfl (E.move rfl) ?_
              refine R.gyes rfl rfl ?_
              refine R.ev rfl (E.move rfl) ?_
              refine R.gyes rfl rfl ?_
              refine R.ev rfl (E.move rfl) ?_
              refine R.gyes rfl rfl ?_
              refine R.call ⟨_, _, Tryd.func35, rfl, by kernel_rfl⟩ rfl rfl (equal_any (L := st.2) (L' := st2.2) (sz := st.1) (sz' := st2.1) hs) ?_
              rintro _ w24 ⟨rfl, hs⟩
              refine R.gyes rfl rfl ?_
              refine R.ev rfl (E.move rfl) ?_
              refine R.gyes rfl rfl ?_
              refine R.ev rfl ((E.eqlB rfl rfl Tryd.underlying4).isB (c := true) (by rw [← hE]; simp)) ?_
              refine R.ev rfl (E.pickT rfl rfl) ?_
              refine R.ev rfl (E.assign rfl) ?_
              refine R.done ?_
              refine X.keep [(6, _)] ⟨rfl, trivial⟩ ?_
              refine X.next ?_
              refine C.ret ?_
              refine X.ret1 rfl rfl ?_
              exact ⟨rfl, (hs.less hk12.le).mod⟩
          · refine R.gskip rfl rfl rfl ?_
            refine R.gskip rfl rfl rfl ?_
            refine R.gskip rfl rfl rfl ?_
            refine R.gskip rfl rfl rfl ?_
            refine R.gskip rfl rfl rfl ?_
            refine R.ev rfl (E.pickF rfl rfl) ?_
            refine R.done ?_
            refine X.keep [(7, _), (8, _), (10, _), (11, _), (20, _), (21, _), (123, _)] ⟨rfl, rfl, rfl, rfl, rfl, rfl, rfl, trivial⟩ ?_
            refine X.next ?_
            refine C.cfalse rfl ?_
            refine C.exit ?_
            refine X.thenExit ?_
            refine X.loopExit ?_
            refine X.blockExit ?_
            refine X.next ?_
            refine C.seq ?_
            refine C.region ?_
            have hE : e = decide (st.1 = st2.1 ∧ st.2 = st2.2) := by
              cases e with
              | false =>
                have := hF rfl
                symm; rw [decide_eq_false_iff_not]
                intro hh; exact this (Prod.ext hh.1 hh.2)
              | true =>
                obtain ⟨g1, g2, g3, g4⟩ := hT rfl
                symm; rw [decide_eq_true_iff]
                refine ⟨g1, ?_⟩
                have hj : j = st.2.length := by first | (simp at h123; omega) | simp at h117
                rw [hj, List.take_length] at g4
                rw [g4, g2, List.take_length]
            have hE2 : e = decide (st2.1 = st.1 ∧ st2.2 = st.2) := by
              rw [hE, Bool.eq_iff_iff]; simp only [decide_eq_true_eq]
              exact ⟨fun h => ⟨h.1.symm, h.2.symm⟩, fun h => ⟨h.1.symm, h.2.symm⟩⟩
            refine R.ev rfl (E.move rfl) ?_
            refine R.ev rfl (E.loadRowC rfl Tryd.underlying58 rfl Tryd.sz58 (by first | exact ⟨hs.ldA, by first | rfl | assumption | exact Enc.len _ | exact len_ub (by assumption)⟩ | exact ⟨hs.ldP rfl, by first | rfl | assumption | exact Enc.len _ | exact len_ub (by assumption)⟩ | exact ⟨hs.ldM rfl rfl, by first | rfl | assumption | exact Enc.len _ | exact len_ub (by assumption)⟩ | exact ⟨hs.ldM (by assumption) (by first | rfl | assumption), by first | rfl | assumption | exact Enc.len _ | exact len_ub (by assumption)⟩ | exact ⟨by assumption, by first | rfl | assumption | exact Enc.len _ | exact len_ub (by assumption)⟩ | exact hs.ldp | exact At.partC (by assumption))) ?_
            refine R.call ⟨_, _, Tryd.func30, rfl, by kernel_rfl⟩ rfl rfl (same_any (sz := st.1) (L := st.2) hs (by omega) hinv) ?_
            rintro _ w21 ⟨rfl, hs⟩
            refine R.ev rfl (E.move rfl) ?_
            refine R.gyes rfl rfl ?_
            refine R.ev rfl (E.move rfl) ?_
            refine R.gyes rfl rfl ?_
            refine R.ev rfl (E.loadRowC rfl Tryd.underlying58 rfl Tryd.sz58 (by first | exact ⟨hs.ldA, by first | rfl | assumption | exact Enc.len _ | exact len_ub (by assumption)⟩ | exact ⟨hs.ldP rfl, by first | rfl | assumption | exact Enc.len _ | exact len_ub (by assumption)⟩ | exact ⟨hs.ldM rfl rfl, by first | rfl | assumption | exact Enc.len _ | exact len_ub (by assumption)⟩ | exact ⟨hs.ldM (by assumption) (by first | rfl | assumption), by first | rfl | assumption | exact Enc.len _ | exact len_ub (by assumption)⟩ | exact ⟨by assumption, by first | rfl | assumption | exact Enc.len _ | exact len_ub (by assumption)⟩ | exact hs.ldp | exact At.partC (by assumption))) ?_
            refine R.gyes rfl rfl ?_
            refine R.call ⟨_, _, Tryd.func30, rfl, by kernel_rfl⟩ rfl rfl (same_any (sz := st2.1) (L := st2.2) hs (by omega) hinv2) ?_
            rintro _ w22 ⟨rfl, hs⟩
            refine R.ev rfl (E.pickT rfl rfl) ?_
            refine R.ev rfl (E.move rfl) ?_
            refine R.gyes rfl rfl ?_
            refine R.ev rfl (E.move rfl) ?_
            refine R.gyes rfl rfl ?_
            refine R.ev rfl (E.move rfl) ?_
            refine R.gyes rfl rfl ?_
            refine R.call ⟨_, _, Tryd.func35, rfl, by kernel_rfl⟩ rfl rfl (equal_any (L := st2.2) (L' := st.2) (sz := st2.1) (sz' := st.1) hs) ?_
            rintro _ w23 ⟨rfl, hs⟩
            refine R.gyes rfl rfl ?_
            refine R.ev rfl (E.move rfl) ?_
            refine R.gyes rfl rfl ?_
            refine R.ev rfl ((E.eqlB rfl rfl Tryd.underlying4).isB (c := true) (by rw [← hE2]; simp)) ?_
            refine R.ev rfl (E.pickT rfl rfl) ?_
            refine R.ev rfl (E.move rfl) ?_
            refine R.gyes rfl rfl ?_
            refine R.ev rfl (E.move rfl) ?_
            refine R.gyes rfl rfl ?_
            refine R.ev rfl (E.move rfl) ?_
            refine R.gyes rfl rfl ?_
            refine R.call ⟨_, _, Tryd.func35, rfl, by kernel_rfl⟩ rfl rfl (equal_any (L := st.2) (L' := st2.2) (sz := st.1) (sz' := st2.1) hs) ?_
            rintro _ w24 ⟨rfl, hs⟩
            refine R.gyes rfl rfl ?_
            refine R.ev rfl (E.move rfl) ?_
            refine R.gyes rfl rfl ?_
            refine R.ev rfl ((E.eqlB rfl rfl Tryd.underlying4).isB (c := true) (by rw [← hE]; simp)) ?_
            refine R.ev rfl (E.pickT rfl rfl) ?_
            refine R.ev rfl (E.assign rfl) ?_
            refine R.done ?_
            refine X.keep [(6, _)] ⟨rfl, trivial⟩ ?_
            refine X.next ?_
            refine C.ret ?_
            refine X.ret1 rfl rfl ?_
            exact ⟨rfl, (hs.less hk12.le).mod⟩

namespace windowClone
open Go.ChangeShapes Go.WideShapes Go.ChangeAt Go.RowKit
open Go.ChangeMaps (open_string shut_string)
set_option linter.unusedVariables false

theorem own : ownKnob Tryd.prog.godebug = none := by kernel_rfl
theorem laidOut : laidOutB Tryd.prog = true := by kernel_rfl
theorem door_met (os : Os) (args : Array Value) : laidMetH Tryd.prog Rows.windowCloneRow.laid ((World.doorLaid Tryd.prog 400 os).forCall (fun _ _ => 0) ⟨#[], args, []⟩).memory :=
  laidMetH_of_parts3 (fuel := 8) (laidMet_of_run' 8 (by kernel_rfl) (by kernel_rfl)) (by kernel_rfl) (by kernel_rfl)
set_option maxRecDepth 100000 in
theorem lifted (os : Os) (started : os.Started) (H : Type) (enc : TypeId × Value → H) :
    ReturnsInHanded {} Tryd.checked os 10 .any (fun w args => (Rows.windowCloneSpec.pre enc Tryd.prog Tryd.f10 [] false w args ∧ laidMetH Tryd.prog Rows.windowCloneRow.laid w) ∧ sizedMet enc Tryd.prog Tryd.f10 (OpenSpec.ofChange Rows.windowCloneSpec) false w args)
      (Rows.windowCloneSpec.post enc Tryd.prog Tryd.f10 false true false false) := by
  refine returnsInHanded_of_change_and (C := Tryd.checked) (X := fun w _ => laidMetH Tryd.prog Rows.windowCloneRow.laid w) (fun _ _ _ hh h => h.of_heap hh) own started (by kernel_rfl) Tryd.func10
    (ChangeSpec.witness_shaped (enc := enc) (C := Tryd.checked) (os := os) (X := fun w _ => laidMetH Tryd.prog Rows.windowCloneRow.laid w) false (World.doorLaid Tryd.prog 400 os) #[.int .i64 0, .slice none 0 0, .slice none 0 0] 8 rfl (World.shaped_of_RefB (by kernel_rfl) (by kernel_rfl)) (by kernel_rfl) (by kernel_rfl) (by kernel_rfl) (door_met os _)) ?_
  intro W base args ds gs before hval0 hW _ _ hL _
  have hval : ∀ (j : Nat) t v, Tryd.f10.params[j]? = some t → args[j]? = some v → Value.okWide Tryd.prog W .any base t v := hval0
  have hW' := hW
  obtain ⟨p, q, hA0, hV, rfl, hfz, hnd⟩ := hW
  have hA : DataW.TrodAll enc Tryd.prog W 0 (fun _ => true) true Tryd.f10.params.toList args.toList ds p := hA0
  rw [Tryd.params10] at hA hval
  obtain ⟨v0, vs0, d0, ds0, p0, q0, hargs, rfl, rfl, h0, r0⟩ := trodAll_cons hA
  obtain ⟨v1, vs1, d1, ds1, p1, q1, rfl, rfl, rfl, h1, r1⟩ := trodAll_cons r0
  obtain ⟨v2, vs2, d2, ds2, p2, q2, rfl, rfl, rfl, h2, r2⟩ := trodAll_cons r1
  obtain ⟨rfl, rfl, rfl⟩ := trodAll_nil r2
  obtain rfl : args = #[v0, v1, v2] := by cases args; simp_all
  obtain ⟨rfl, rfl⟩ := trodVars_none hV
  have lt0 : ∀ x ∈ p0, x.block < W.heap.size := by obtain ⟨m, hm⟩ := h0; exact DataW.trod_lt m _ _ _ hm
  have a0 := Eng.argv_of (hval 0 3 v0 rfl rfl) h0
  have lt1 : ∀ x ∈ p1, x.block < W.heap.size := by obtain ⟨m, hm⟩ := h1; exact DataW.trod_lt m _ _ _ hm
  have a1 := Eng.argv_of (hval 1 49 v1 rfl rfl) h1
  have lt2 : ∀ x ∈ p2, x.block < W.heap.size := by obtain ⟨m, hm⟩ := h2; exact DataW.trod_lt m _ _ _ hm
  have a2 := Eng.argv_of (hval 2 49 v2 rfl rfl) h2
  clear hA0 hval0
  refine Calls.mono (clone_walk W (laid_chg hL) v0 a0 v1 a1 v2 a2) fun e W' ⟨v, he, hv, hm⟩ => ?_
  subst he
  subst hv
  have bel := hm.below
  exact ⟨_, rfl, _, _, _, [], _, [], hW', trodAll_mk1 (shut_bool Tryd.underlying4 _), (trodAll_cons_mk (Below.trod laidOut (by kernel_rfl) (of_decide_eq_true (by kernel_rfl)) h0 bel lt0) (trodAll_cons_mk (Below.trod laidOut (by kernel_rfl) (of_decide_eq_true (by kernel_rfl)) h1 bel lt1) (trodAll_cons_mk (Below.trod laidOut (by kernel_rfl) (of_decide_eq_true (by kernel_rfl)) h2 bel lt2) trodAll_mk0))), rfl, bel.frame _, fun h => by cases h⟩

theorem over : Rows.windowCloneRow.holds Tryd.pinned (OpenSpec.ofChange Rows.windowCloneSpec) :=
  OpenClaim.holds_of_wide 10 Tryd.f10 rfl rfl rfl rfl rfl rfl rfl ⟨rfl, rfl, rfl, rfl, rfl⟩ rfl rfl rfl rfl rfl (by kernel_rfl) Tryd.func10 (by kernel_rfl)
    (of_decide_eq_true (by kernel_rfl)) (by unfold Func.isWrapper; first | (rw [if_pos (by decide +kernel)]; kernel_rfl) | (rw [if_neg (by decide +kernel)]; exact ⟨rfl, rfl⟩))
    (fun os started H enc _ => lifted os started H enc)
end windowClone
/-- the statement: the tied card -/
theorem windowClone_holds : Rows.WindowCloneCardSaid :=
  Claim7.holds_tied_plain_at .later [] [.data] true (true, "528cf9756be51d7108a31d58a47078c1c4b59c91fa320a11aaba2c24a43b3e31") false
    windowClone.over (fun _ h => by cases h) (by kernel_rfl) (fun _ h => by cases h) windowClone_row_tie rfl ⟨rfl, rfl⟩ (by kernel_rfl) rfl
    (fun f fn hf hfn => by
      obtain rfl : f = 10 := Option.some.inj ((show Tryd.prog.funcNamed "bulletin/bulletinlaw36.WindowClone" = some 10 by kernel_rfl).symm.trans hf) |>.symm
      obtain rfl : fn = Tryd.f10 := (Option.some.inj (Tryd.func10.symm.trans hfn)).symm
      exact ⟨by kernel_rfl, fun j t ht => by
        rw [Tryd.params10] at ht
        have ht := List.mem_of_getElem? (by simpa using ht)
        have key : ∀ t ∈ ([3, 49, 49] : List TypeId), Tryd.prog.wantsStandIn t = false := by
          intro t ht
          simp only [List.mem_cons, List.not_mem_nil, or_false] at ht
          rcases ht with rfl | rfl | rfl <;> kernel_rfl
        exact key t (by simpa using ht)⟩)
    (by kernel_rfl)
#print axioms windowClone_holds
end Go.Proofs.YtajbclcpkgenbaaDoor
