/-
  HistoryClones returns true for every input. No condition.
-/
import Derived.Test.YtobhhnfckhbeeaaRows
import Derived.Test.YtobhhnfckhbeeaaHisQ
namespace Go.Proofs.Ytobhhnfckhbeeaa
open Go.Eng Go.RowKit Go.Sort

theorem clones_walk (w : World) (v0 : Value) (a0 : ArgV Try.prog w 34 v0) (v1 : Value) (a1 : ArgV Try.prog w 34 v1) : Ret Try.prog 8 #[v0, v1] w fun r w' => r = .bool true ∧ Mod [] w w' := by
  obtain ⟨ad, cap, ops, rfl, hc, hcm, hr⟩ := argv_o a0
  obtain ⟨ad2, cap2, ops2, rfl, hc2, hcm2, hr2⟩ := argv_o a1
  unfold maxLen at hcm hcm2
  have hs := Sat.start w
  refine Ret.enter (n := 110) (args := [.slice ad ops.length cap, .slice ad2 ops2.length cap2]) Try.func8 rfl rfl ?_
  refine C.keep [(0, _), (1, _)] ⟨rfl, rfl, trivial⟩ ?_
  refine C.seq ?_
  refine C.region ?_
  refine R.ev rfl (E.assign rfl) ?_
  refine R.done ?_
  refine X.keep [(0, _), (1, _)] ⟨rfl, rfl, trivial⟩ ?_
  refine X.next ?_
  refine C.seq ?_
  refine C.seq ?_
  refine C.region ?_
  refine R.call ⟨_, _, Try.func13, rfl, by kernel_rfl⟩ rfl rfl (known_any hs) ?_
  rintro _ w1 ⟨rfl, hs⟩
  refine R.ev rfl (E.notT rfl) ?_
  refine R.done ?_
  refine X.keep [(0, _), (1, _), (16, _)] ⟨rfl, rfl, rfl, trivial⟩ ?_
  refine X.next ?_
  refine C.cfalse rfl ?_
  refine C.skip ?_
  refine X.next ?_
  refine C.seq ?_
  refine C.region ?_
  refine R.ev rfl (E.move rfl) ?_
  refine R.call ⟨_, _, Try.func17, rfl, by kernel_rfl⟩ rfl rfl (play_any hs (by omega)) ?_
  rintro _ w3 ⟨K3, p, s, L, v3, F3, rfl, hk3, hr3, hI, hw3, hs⟩
  have o3 : OneC v3 := ⟨KRow.oneC' hr3⟩
  have hIl := hI.len
  refine R.ev rfl (E.move rfl) ?_
  refine R.ev rfl (E.extract rfl rfl) ?_
  refine R.ev rfl (E.extract rfl rfl) ?_
  refine R.ev rfl (E.extract rfl rfl) ?_
  refine R.ev rfl (E.extract rfl rfl) ?_
  refine R.ev rfl (E.assign rfl) ?_
  refine R.ev rfl (E.assign rfl) ?_
  refine R.ev rfl (E.assign rfl) ?_
  refine R.ev rfl (E.assign rfl) ?_
  refine R.done ?_
  refine X.keep [(1, _), (5, _), (6, _), (7, _), (8, _)] ⟨rfl, rfl, rfl, rfl, rfl, trivial⟩ ?_
  refine X.next ?_
  refine C.seq ?_
  refine C.region ?_
  refine R.ev rfl (E.move rfl) ?_
  refine R.call ⟨_, _, Try.func17, rfl, by kernel_rfl⟩ rfl rfl (play_any hs (by omega)) ?_
  rintro _ w4 ⟨K4, p4, s4, L4, v4, F4, rfl, hk4, hr4, hI4, hw4, hs⟩
  have o4 : OneC v4 := ⟨KRow.oneC' hr4⟩
  refine R.ev rfl (E.move rfl) ?_
  refine R.ev rfl (E.extract rfl rfl) ?_
  refine R.ev rfl (E.extract rfl rfl) ?_
  refine R.ev rfl (E.extract rfl rfl) ?_
  refine R.ev rfl (E.extract rfl rfl) ?_
  refine R.ev rfl (E.assign rfl) ?_
  refine R.ev rfl (E.assign rfl) ?_
  refine R.ev rfl (E.assign rfl) ?_
  refine R.ev rfl (E.assign rfl) ?_
  refine R.done ?_
  refine X.keep [(1, _), (5, _), (6, _), (7, _), (8, _), (9, _), (10, _), (11, _), (12, _)] ⟨rfl, rfl, rfl, rfl, rfl, rfl, rfl, rfl, rfl, trivial⟩ ?_
  refine X.next ?_
  refine C.seq ?_
  refine C.seq ?_
  refine C.region ?_
  refine R.ev rfl (E.move rfl) ?_
  refine R.ev rfl (E.notT rfl) ?_
  refine R.ev rfl (E.move rfl) ?_
  refine R.gyes rfl rfl ?_
  refine R.ev rfl (E.move rfl) ?_
  refine R.gyes rfl rfl ?_
  refine R.ev rfl (E.notT rfl) ?_
  refine R.ev rfl (E.pickF rfl rfl) ?_
  refine R.ev rfl (E.move rfl) ?_
  refine R.gyes rfl rfl ?_
  refine R.ev rfl (E.move rfl) ?_
  refine R.gyes rfl rfl ?_
  refine R.ev rfl (E.move rfl) ?_
  refine R.gyes rfl rfl ?_
  refine R.call ⟨_, _, Try.func32, rfl, by kernel_rfl⟩ rfl rfl (equal_any hs) ?_
  rintro _ w59 ⟨rfl, hs⟩
  rw [hI.ord.eqHi hI4.ord]
  refine R.gyes rfl rfl ?_
  refine R.ev rfl (E.move rfl) ?_
  refine R.gyes rfl rfl ?_
  refine R.ev rfl (E.move rfl) ?_
  refine R.gyes rfl rfl ?_
  refine R.ev rfl (E.eql rfl rfl) ?_
  refine R.gyes rfl rfl ?_
  refine R.ev rfl (E.move rfl) ?_
  refine R.split 44 rfl (fun h44 => ?_) (fun h44 => ?_)
  · refine R.gyes rfl rfl ?_
    refine R.ev rfl (E.move rfl) ?_
    refine R.gyes rfl rfl ?_
    refine R.ev rfl (E.move rfl) ?_
    refine R.gyes rfl rfl ?_
    refine R.call ⟨_, _, Try.func27, rfl, by kernel_rfl⟩ rfl rfl (rsame_any (L := L) (M := L4) hs (by omega)) ?_
    rintro _ w516 ⟨rfl, hs⟩
    refine R.gyes rfl rfl ?_
    refine R.ev rfl (E.pickT rfl rfl) ?_
    refine R.gyes rfl rfl ?_
    refine R.ev rfl ((E.neqB rfl rfl Try.underlying4).isB (c := false) (by simp_all)) ?_
    refine R.ev rfl (E.pickF rfl rfl) ?_
    refine R.done ?_
    refine X.keep [(1, _), (5, _), (6, _), (7, _), (50, _)] ⟨rfl, rfl, rfl, rfl, rfl, trivial⟩ ?_
    refine X.next ?_
    refine C.cfalse rfl ?_
    refine C.skip ?_
    refine X.next ?_
    refine C.seq ?_
    refine C.region ?_
    refine R.ev rfl (E.move rfl) ?_
    refine R.call ⟨_, _, Try.func33, rfl, by kernel_rfl⟩ rfl rfl (clone_any hs) ?_
    rintro _ w7 ⟨q, F7, rfl, hw7, hs⟩
    refine R.ev rfl (E.assign rfl) ?_
    refine R.done ?_
    refine X.keep [(1, _), (5, _), (6, _), (7, _), (13, _)] ⟨rfl, rfl, rfl, rfl, rfl, trivial⟩ ?_
    refine X.next ?_
    refine C.seq ?_
    refine C.seq ?_
    refine C.region ?_
    refine R.ev rfl (E.move rfl) ?_
    refine R.ev rfl (E.eqlNilF rfl rfl Try.underlying35) ?_
    refine R.ev rfl (E.move rfl) ?_
    refine R.gyes rfl rfl ?_
    refine R.ev rfl (E.move rfl) ?_
    refine R.gyes rfl rfl ?_
    refine R.ev rfl (E.move rfl) ?_
    refine R.gyes rfl rfl ?_
    refine R.call ⟨_, _, Try.func32, rfl, by kernel_rfl⟩ rfl rfl (equal_any hs) ?_
    rintro _ w85 ⟨rfl, hs⟩
    rw [hI.ord.eqHi hI.ord]
    refine R.gyes rfl rfl ?_
    refine R.ev rfl ((E.not rfl).isB (c := false) (by simp)) ?_
    refine R.ev rfl (E.pickF rfl rfl) ?_
    refine R.done ?_
    refine X.keep [(1, _), (5, _), (6, _), (7, _), (13, _), (60, _)] ⟨rfl, rfl, rfl, rfl, rfl, rfl, trivial⟩ ?_
    refine X.next ?_
    refine C.cfalse rfl ?_
    refine C.skip ?_
    refine X.next ?_
    refine C.seq ?_
    refine C.seq ?_
    refine C.region ?_
    refine R.ev rfl (E.assign rfl) ?_
    refine R.done ?_
    refine X.keep [(1, _), (5, _), (6, _), (7, _), (13, _), (14, _)] ⟨rfl, rfl, rfl, rfl, rfl, rfl, trivial⟩ ?_
    refine X.next ?_
    refine C.block ?_
    refine C.loop (T := Nat × Hi × List HEnt × Hl) [(1, _), (5, _), (6, _), (7, _), (13, _)] (fun (k, _, _, _) => [(14, .int .i64 (k : Nat))]) (fun (k, s1, L1, F1) w' => k ≤ ops2.length ∧ k ≤ 40 ∧ PInv (40 + k) s1 L1 ∧ HiL q s1 F1 ∧ Sat K4 w' (F1 :: F3 :: [])) (fun (k, _) => 40 - k) ((0, s, L, F7)) ⟨rfl, rfl, rfl, rfl, rfl, rfl, trivial⟩ ⟨Nat.zero_le _, Nat.zero_le _, hI, hw7, hs.to⟩ ?_
    rintro ⟨k, s1, L1, F1⟩ w5 ⟨hk, hk40, hI1, hw1, hs⟩
    refine C.keep [(1, _), (5, _), (6, _), (7, _), (13, _), (14, _)] ⟨rfl, rfl, rfl, rfl, rfl, rfl, trivial⟩ ?_
    refine C.seq ?_
    refine C.seq ?_
    refine C.region ?_
    refine R.ev rfl (E.move rfl) ?_
    refine R.ev rfl (E.move rfl) ?_
    refine R.ev rfl (E.lenSl rfl Try.underlying34) ?_
    refine R.ev rfl (E.lss rfl rfl) ?_
    refine R.ev rfl (E.move rfl) ?_
    refine R.split 65 rfl (fun h65 => ?_) (fun h65 => ?_)
    · refine R.gyes rfl rfl ?_
      refine R.ev rfl (E.move rfl) ?_
      refine R.gyes rfl rfl ?_
      refine R.ev rfl (E.lss rfl rfl) ?_
      refine R.ev rfl (E.pickT rfl rfl) ?_
      refine R.done ?_
      refine X.keep [(1, _), (5, _), (6, _), (7, _), (13, _), (14, _), (68, _)] ⟨rfl, rfl, rfl, rfl, rfl, rfl, rfl, trivial⟩ ?_
      refine X.next ?_
      refine C.cbool rfl (fun h68 => ?_) (fun h68 => ?_)
      · refine C.skip ?_
        refine X.next ?_
        refine C.seq ?_
        refine C.block ?_
        refine C.seq ?_
        refine C.region ?_
        have hk2 : k < 40 := by have := of_decide_eq_true h68; omega
        have hkl : k < ops2.length := by have := of_decide_eq_true h65; omega
        obtain ⟨y, bk_y, of_y, hy, my, ly, rfl, Ay⟩ := (hs.to (Hs := [])).el (i := k) (ad := ad2) (n := ops2.length) (c := cap2) (by omega)
        have ay := Ay _ hs.to
        refine R.ev rfl (E.move rfl) ?_
        refine R.ev rfl (E.move rfl) ?_
        refine R.ev rfl (E.move rfl) ?_
        refine R.ev rfl (E.indexAddr (i := k) rfl rfl Try.underlying34 Try.sz44 rfl (by omega)) ?_
        first | refine R.ev rfl (E.fieldAddr0 1 rfl Try.underlying44 rfl Try.sz24 rfl) ?_ | refine R.ev rfl (E.fieldAddrN 1 rfl Try.underlying44 rfl Try.sz24 rfl) ?_
        refine R.ev rfl (E.loadRowC rfl Try.underlying24 rfl Try.sz24 (At.partC ay)) ?_
        refine R.call ⟨_, _, Try.func14, rfl, by kernel_rfl⟩ rfl rfl (to_any y.x hs) ?_
        rintro _ w136 ⟨rfl, hs⟩
        refine R.call ⟨_, _, Try.func20, rfl, by kernel_rfl⟩ rfl rfl (add_any y.x (hs.front (F := F1))) ?_
        rintro _ w137 ⟨rfl, F8, hw8, hs1⟩
        have hs := hs.back (F := F1) hs1
        have hI8 := hI1.add y.x (by omega)
        have ay := (At.partC (i := 1) (m := 36) (Ay _ hs.to)).1
        refine R.done ?_
        refine X.keep [(1, _), (5, _), (6, _), (7, _), (13, _), (14, _)] ⟨rfl, rfl, rfl, rfl, rfl, rfl, trivial⟩ ?_
        refine X.next ?_
        refine C.seq ?_
        refine C.region ?_
        refine R.ev rfl (E.move rfl) ?_
        refine R.ev rfl (E.move rfl) ?_
        refine R.ev rfl (E.move rfl) ?_
        refine R.ev rfl (E.indexAddr (i := k) rfl rfl Try.underlying34 Try.sz44 rfl (by omega)) ?_
        first | refine R.ev rfl (E.fieldAddr0 1 rfl Try.underlying44 rfl Try.sz24 rfl) ?_ | refine R.ev rfl (E.fieldAddrN 1 rfl Try.underlying44 rfl Try.sz24 rfl) ?_
        first | refine R.ev rfl (E.fieldAddr0 0 rfl Try.underlying24 rfl Try.sz22 rfl) ?_ | refine R.ev rfl (E.fieldAddrN 0 rfl Try.underlying24 rfl Try.sz22 rfl) ?_
        refine R.ev rfl (E.loadRowC rfl Try.underlying22 rfl Try.sz22 (by first | exact ⟨hs.ldA, by first | rfl | assumption | exact encV_len _ | exact Enc.len _ | exact len_ub (by assumption)⟩ | exact ⟨hs.ldP rfl, by first | rfl | assumption | exact encV_len _ | exact Enc.len _ | exact len_ub (by assumption)⟩ | exact ⟨hs.ldM rfl rfl, by first | rfl | assumption | exact encV_len _ | exact Enc.len _ | exact len_ub (by assumption)⟩ | exact ⟨hs.ldM (by assumption) (by first | rfl | assumption), by first | rfl | assumption | exact encV_len _ | exact Enc.len _ | exact len_ub (by assumption)⟩ | exact ⟨by assumption, by first | rfl | assumption | exact encV_len _ | exact Enc.len _ | exact len_ub (by assumption)⟩ | exact hs.ldp | exact At.partC (by assumption))) ?_
        refine R.call ⟨_, _, Try.func21, rfl, by kernel_rfl⟩ rfl rfl (setGone_any y.x.id (hs.front (F := F8))) ?_
        rintro _ w147 ⟨rfl, F9, hw9, hs1⟩
        have hs := hs.back (F := F8) hs1
        have hI9 := hI8.gone y.x.id
        have ay := (At.partC (i := 1) (m := 36) (Ay _ hs.to)).1
        refine R.done ?_
        refine X.keep [(1, _), (5, _), (6, _), (7, _), (13, _), (14, _)] ⟨rfl, rfl, rfl, rfl, rfl, rfl, trivial⟩ ?_
        refine X.next ?_
        refine C.region ?_
        refine R.ev rfl (E.move rfl) ?_
        refine R.ev rfl (E.move rfl) ?_
        refine R.ev rfl (E.move rfl) ?_
        refine R.ev rfl (E.indexAddr (i := k) rfl rfl Try.underlying34 Try.sz44 rfl (by omega)) ?_
        first | refine R.ev rfl (E.fieldAddr0 1 rfl Try.underlying44 rfl Try.sz24 rfl) ?_ | refine R.ev rfl (E.fieldAddrN 1 rfl Try.underlying44 rfl Try.sz24 rfl) ?_
        first | refine R.ev rfl (E.fieldAddr0 32 rfl Try.underlying24 rfl Try.sz3 rfl) ?_ | refine R.ev rfl (E.fieldAddrN 32 rfl Try.underlying24 rfl Try.sz3 rfl) ?_
        refine R.ev rfl (E.load1 rfl Try.underlying3 rfl (by first | exact hs.ldc | exact hs.ld rfl | exact hs.ld (by assumption) | exact by assumption | exact At.cellC (by assumption))) ?_
        refine R.call ⟨_, _, Try.func22, rfl, by kernel_rfl⟩ rfl rfl (forget_any y.x.arr hI9.ord (hs.front (F := F9))) ?_
        rintro v15 w15 ⟨F10, G10, r10, hw10, hs1⟩
        have hs := hs.back2 (F := F9) hs1
        have hI10 := hI9.forget y.x.arr
        refine R.done ?_
        refine X.keep [(1, _), (5, _), (6, _), (7, _), (13, _), (14, _)] ⟨rfl, rfl, rfl, rfl, rfl, rfl, trivial⟩ ?_
        refine X.blockNormal ?_
        refine X.next ?_
        refine C.region ?_
        refine R.ev rfl (E.move rfl) ?_
        refine R.ev rfl (E.add rfl rfl (by omega) (by omega)) ?_
        refine R.ev rfl (E.assign rfl) ?_
        refine R.done ?_
        refine X.keep [(1, _), (5, _), (6, _), (7, _), (13, _), (14, _)] ⟨rfl, rfl, rfl, rfl, rfl, rfl, trivial⟩ ?_
        exact X.again (k + 1, _, _, F10) ⟨rfl, rfl, rfl, rfl, rfl, rfl, trivial⟩ ⟨by omega, by omega, hI10, hw10, hs.to⟩ (by show _ - _ < _ - _; omega)
      · refine C.exit ?_
        refine X.thenExit ?_
        refine X.loopExit ?_
        refine X.blockExit ?_
        refine X.next ?_
        refine C.seq ?_
        refine C.region ?_
        refine R.ev rfl (E.move rfl) ?_
        refine R.call ⟨_, _, Try.func28, rfl, by kernel_rfl⟩ rfl rfl (entries_any hI.ord hs) ?_
        rintro v16 w16 ⟨F16, r16, hs⟩
        refine R.ev rfl (E.move rfl) ?_
        refine R.call ⟨_, _, Try.func27, rfl, by kernel_rfl⟩ rfl rfl (rsame_any (L := L) (M := L) hs (by omega)) ?_
        rintro _ w163 ⟨rfl, hs⟩
        rw [decide_eq_true rfl]
        refine R.ev rfl (E.move rfl) ?_
        refine R.gyes rfl rfl ?_
        refine R.ev rfl (E.move rfl) ?_
        refine R.gyes rfl rfl ?_
        refine R.call ⟨_, _, Try.func26, rfl, by kernel_rfl⟩ rfl rfl (cutoff_any hs) ?_
        rintro _ w166 ⟨rfl, hs⟩
        refine R.gyes rfl rfl ?_
        refine R.ev rfl (E.move rfl) ?_
        refine R.gyes rfl rfl ?_
        refine R.ev rfl ((E.eql rfl rfl).isT rfl) ?_
        refine R.ev rfl (E.pickT rfl rfl) ?_
        refine R.ev rfl (E.move rfl) ?_
        refine R.gyes rfl rfl ?_
        refine R.ev rfl (E.move rfl) ?_
        refine R.gyes rfl rfl ?_
        refine R.call ⟨_, _, Try.func32, rfl, by kernel_rfl⟩ rfl rfl (equalNil_any hs) ?_
        rintro _ w1612 ⟨rfl, hs⟩
        refine R.gyes rfl rfl ?_
        refine R.ev rfl ((E.not rfl).isB (c := true) rfl) ?_
        refine R.ev rfl (E.pickT rfl rfl) ?_
        refine R.ev rfl (E.assign rfl) ?_
        refine R.done ?_
        refine X.keep [(4, _)] ⟨rfl, trivial⟩ ?_
        refine X.next ?_
        refine C.ret ?_
        refine X.ret1 rfl rfl ?_
        exact ⟨rfl, (hs.less (hk3.trans hk4).le).mod⟩
    · refine R.gskip rfl rfl rfl ?_
      refine R.gskip rfl rfl rfl ?_
      refine R.ev rfl (E.pickF rfl rfl) ?_
      refine R.done ?_
      refine X.keep [(1, _), (5, _), (6, _), (7, _), (13, _), (14, _), (68, _)] ⟨rfl, rfl, rfl, rfl, rfl, rfl, rfl, trivial⟩ ?_
      refine X.next ?_
      refine C.cfalse rfl ?_
      refine C.exit ?_
      refine X.thenExit ?_
      refine X.loopExit ?_
      refine X.blockExit ?_
      refine X.next ?_
      refine C.seq ?_
      refine C.region ?_
      refine R.ev rfl (E.move rfl) ?_
      refine R.call ⟨_, _, Try.func28, rfl, by kernel_rfl⟩ rfl rfl (entries_any hI.ord hs) ?_
      rintro v16 w16 ⟨F16, r16, hs⟩
      refine R.ev rfl (E.move rfl) ?_
      refine R.call ⟨_, _, Try.func27, rfl, by kernel_rfl⟩ rfl rfl (rsame_any (L := L) (M := L) hs (by omega)) ?_
      rintro _ w163 ⟨rfl, hs⟩
      rw [decide_eq_true rfl]
      refine R.ev rfl (E.move rfl) ?_
      refine R.gyes rfl rfl ?_
      refine R.ev rfl (E.move rfl) ?_
      refine R.gyes rfl rfl ?_
      refine R.call ⟨_, _, Try.func26, rfl, by kernel_rfl⟩ rfl rfl (cutoff_any hs) ?_
      rintro _ w166 ⟨rfl, hs⟩
      refine R.gyes rfl rfl ?_
      refine R.ev rfl (E.move rfl) ?_
      refine R.gyes rfl rfl ?_
      refine R.ev rfl ((E.eql rfl rfl).isT rfl) ?_
      refine R.ev rfl (E.pickT rfl rfl) ?_
      refine R.ev rfl (E.move rfl) ?_
      refine R.gyes rfl rfl ?_
      refine R.ev rfl (E.move rfl) ?_
      refine R.gyes rfl rfl ?_
      refine R.call ⟨_, _, Try.func32, rfl, by kernel_rfl⟩ rfl rfl (equalNil_any hs) ?_
      rintro _ w1612 ⟨rfl, hs⟩
      refine R.gyes rfl rfl ?_
      refine R.ev rfl ((E.not rfl).isB (c := true) rfl) ?_
      refine R.ev rfl (E.pickT rfl rfl) ?_
      refine R.ev rfl (E.assign rfl) ?_
      refine R.done ?_
      refine X.keep [(4, _)] ⟨rfl, trivial⟩ ?_
      refine X.next ?_
      refine C.ret ?_
      refine X.ret1 rfl rfl ?_
      exact ⟨rfl, (hs.less (hk3.trans hk4).le).mod⟩
  · refine R.gskip rfl rfl rfl ?_
    refine R.gskip rfl rfl rfl ?_
    refine R.gskip rfl rfl rfl ?_
    refine R.gyes rfl rfl ?_
    refine R.ev rfl (E.pickF rfl rfl) ?_
    refine R.gyes rfl rfl ?_
    refine R.ev rfl ((E.neqB rfl rfl Try.underlying4).isB (c := false) (by simp_all)) ?_
    refine R.ev rfl (E.pickF rfl rfl) ?_
    refine R.done ?_
    refine X.keep [(1, _), (5, _), (6, _), (7, _), (50, _)] ⟨rfl, rfl, rfl, rfl, rfl, trivial⟩ ?_
    refine X.next ?_
    refine C.cfalse rfl ?_
    refine C.skip ?_
    refine X.next ?_
    refine C.seq ?_
    refine C.region ?_
    refine R.ev rfl (E.move rfl) ?_
    refine R.call ⟨_, _, Try.func33, rfl, by kernel_rfl⟩ rfl rfl (clone_any hs) ?_
    rintro _ w7 ⟨q, F7, rfl, hw7, hs⟩
    refine R.ev rfl (E.assign rfl) ?_
    refine R.done ?_
    refine X.keep [(1, _), (5, _), (6, _), (7, _), (13, _)] ⟨rfl, rfl, rfl, rfl, rfl, trivial⟩ ?_
    refine X.next ?_
    refine C.seq ?_
    refine C.seq ?_
    refine C.region ?_
    refine R.ev rfl (E.move rfl) ?_
    refine R.ev rfl (E.eqlNilF rfl rfl Try.underlying35) ?_
    refine R.ev rfl (E.move rfl) ?_
    refine R.gyes rfl rfl ?_
    refine R.ev rfl (E.move rfl) ?_
    refine R.gyes rfl rfl ?_
    refine R.ev rfl (E.move rfl) ?_
    refine R.gyes rfl rfl ?_
    refine R.call ⟨_, _, Try.func32, rfl, by kernel_rfl⟩ rfl rfl (equal_any hs) ?_
    rintro _ w85 ⟨rfl, hs⟩
    rw [hI.ord.eqHi hI.ord]
    refine R.gyes rfl rfl ?_
    refine R.ev rfl ((E.not rfl).isB (c := false) (by simp)) ?_
    refine R.ev rfl (E.pickF rfl rfl) ?_
    refine R.done ?_
    refine X.keep [(1, _), (5, _), (6, _), (7, _), (13, _), (60, _)] ⟨rfl, rfl, rfl, rfl, rfl, rfl, trivial⟩ ?_
    refine X.next ?_
    refine C.cfalse rfl ?_
    refine C.skip ?_
    refine X.next ?_
    refine C.seq ?_
    refine C.seq ?_
    refine C.region ?_
    refine R.ev rfl (E.assign rfl) ?_
    refine R.done ?_
    refine X.keep [(1, _), (5, _), (6, _), (7, _), (13, _), (14, _)] ⟨rfl, rfl, rfl, rfl, rfl, rfl, trivial⟩ ?_
    refine X.next ?_
    refine C.block ?_
    refine C.loop (T := Nat × Hi × List HEnt × Hl) [(1, _), (5, _), (6, _), (7, _), (13, _)] (fun (k, _, _, _) => [(14, .int .i64 (k : Nat))]) (fun (k, s1, L1, F1) w' => k ≤ ops2.length ∧ k ≤ 40 ∧ PInv (40 + k) s1 L1 ∧ HiL q s1 F1 ∧ Sat K4 w' (F1 :: F3 :: [])) (fun (k, _) => 40 - k) ((0, s, L, F7)) ⟨rfl, rfl, rfl, rfl, rfl, rfl, trivial⟩ ⟨Nat.zero_le _, Nat.zero_le _, hI, hw7, hs.to⟩ ?_
    rintro ⟨k, s1, L1, F1⟩ w5 ⟨hk, hk40, hI1, hw1, hs⟩
    refine C.keep [(1, _), (5, _), (6, _), (7, _), (13, _), (14, _)] ⟨rfl, rfl, rfl, rfl, rfl, rfl, trivial⟩ ?_
    refine C.seq ?_
    refine C.seq ?_
    refine C.region ?_
    refine R.ev rfl (E.move rfl) ?_
    refine R.ev rfl (E.move rfl) ?_
    refine R.ev rfl (E.lenSl rfl Try.underlying34) ?_
    refine R.ev rfl (E.lss rfl rfl) ?_
    refine R.ev rfl (E.move rfl) ?_
    refine R.split 65 rfl (fun h65 => ?_) (fun h65 => ?_)
    · refine R.gyes rfl rfl ?_
      refine R.ev rfl (E.move rfl) ?_
      refine R.gyes rfl rfl ?_
      refine R.ev rfl (E.lss rfl rfl) ?_
      refine R.ev rfl (E.pickT rfl rfl) ?_
      refine R.done ?_
      refine X.keep [(1, _), (5, _), (6, _), (7, _), (13, _), (14, _), (68, _)] ⟨rfl, rfl, rfl, rfl, rfl, rfl, rfl, trivial⟩ ?_
      refine X.next ?_
      refine C.cbool rfl (fun h68 => ?_) (fun h68 => ?_)
      · refine C.skip ?_
        refine X.next ?_
        refine C.seq ?_
        refine C.block ?_
        refine C.seq ?_
        refine C.region ?_
        have hk2 : k < 40 := by have := of_decide_eq_true h68; omega
        have hkl : k < ops2.length := by have := of_decide_eq_true h65; omega
        obtain ⟨y, bk_y, of_y, hy, my, ly, rfl, Ay⟩ := (hs.to (Hs := [])).el (i := k) (ad := ad2) (n := ops2.length) (c := cap2) (by omega)
        have ay := Ay _ hs.to
        refine R.ev rfl (E.move rfl) ?_
        refine R.ev rfl (E.move rfl) ?_
        refine R.ev rfl (E.move rfl) ?_
        refine R.ev rfl (E.indexAddr (i := k) rfl rfl Try.underlying34 Try.sz44 rfl (by omega)) ?_
        first | refine R.ev rfl (E.fieldAddr0 1 rfl Try.underlying44 rfl Try.sz24 rfl) ?_ | refine R.ev rfl (E.fieldAddrN 1 rfl Try.underlying44 rfl Try.sz24 rfl) ?_
        refine R.ev rfl (E.loadRowC rfl Try.underlying24 rfl Try.sz24 (At.partC ay)) ?_
        refine R.call ⟨_, _, Try.func14, rfl, by kernel_rfl⟩ rfl rfl (to_any y.x hs) ?_
        rintro _ w136 ⟨rfl, hs⟩
        refine R.call ⟨_, _, Try.func20, rfl, by kernel_rfl⟩ rfl rfl (add_any y.x (hs.front (F := F1))) ?_
        rintro _ w137 ⟨rfl, F8, hw8, hs1⟩
        have hs := hs.back (F := F1) hs1
        have hI8 := hI1.add y.x (by omega)
        have ay := (At.partC (i := 1) (m := 36) (Ay _ hs.to)).1
        refine R.done ?_
        refine X.keep [(1, _), (5, _), (6, _), (7, _), (13, _), (14, _)] ⟨rfl, rfl, rfl, rfl, rfl, rfl, trivial⟩ ?_
        refine X.next ?_
        refine C.seq ?_
        refine C.region ?_
        refine R.ev rfl (E.move rfl) ?_
        refine R.ev rfl (E.move rfl) ?_
        refine R.ev rfl (E.move rfl) ?_
        refine R.ev rfl (E.indexAddr (i := k) rfl rfl Try.underlying34 Try.sz44 rfl (by omega)) ?_
        first | refine R.ev rfl (E.fieldAddr0 1 rfl Try.underlying44 rfl Try.sz24 rfl) ?_ | refine R.ev rfl (E.fieldAddrN 1 rfl Try.underlying44 rfl Try.sz24 rfl) ?_
        first | refine R.ev rfl (E.fieldAddr0 0 rfl Try.underlying24 rfl Try.sz22 rfl) ?_ | refine R.ev rfl (E.fieldAddrN 0 rfl Try.underlying24 rfl Try.sz22 rfl) ?_
        refine R.ev rfl (E.loadRowC rfl Try.underlying22 rfl Try.sz22 (by first | exact ⟨hs.ldA, by first | rfl | assumption | exact encV_len _ | exact Enc.len _ | exact len_ub (by assumption)⟩ | exact ⟨hs.ldP rfl, by first | rfl | assumption | exact encV_len _ | exact Enc.len _ | exact len_ub (by assumption)⟩ | exact ⟨hs.ldM rfl rfl, by first | rfl | assumption | exact encV_len _ | exact Enc.len _ | exact len_ub (by assumption)⟩ | exact ⟨hs.ldM (by assumption) (by first | rfl | assumption), by first | rfl | assumption | exact encV_len _ | exact Enc.len _ | exact len_ub (by assumption)⟩ | exact ⟨by assumption, by first | rfl | assumption | exact encV_len _ | exact Enc.len _ | exact len_ub (by assumption)⟩ | exact hs.ldp | exact At.partC (by assumption))) ?_
        refine R.call ⟨_, _, Try.func21, rfl, by kernel_rfl⟩ rfl rfl (setGone_any y.x.id (hs.front (F := F8))) ?_
        rintro _ w147 ⟨rfl, F9, hw9, hs1⟩
        have hs := hs.back (F := F8) hs1
        have hI9 := hI8.gone y.x.id
        have ay := (At.partC (i := 1) (m := 36) (Ay _ hs.to)).1
        refine R.done ?_
        refine X.keep [(1, _), (5, _), (6, _), (7, _), (13, _), (14, _)] ⟨rfl, rfl, rfl, rfl, rfl, rfl, trivial⟩ ?_
        refine X.next ?_
        refine C.region ?_
        refine R.ev rfl (E.move rfl) ?_
        refine R.ev rfl (E.move rfl) ?_
        refine R.ev rfl (E.move rfl) ?_
        refine R.ev rfl (E.indexAddr (i := k) rfl rfl Try.underlying34 Try.sz44 rfl (by omega)) ?_
        first | refine R.ev rfl (E.fieldAddr0 1 rfl Try.underlying44 rfl Try.sz24 rfl) ?_ | refine R.ev rfl (E.fieldAddrN 1 rfl Try.underlying44 rfl Try.sz24 rfl) ?_
        first | refine R.ev rfl (E.fieldAddr0 32 rfl Try.underlying24 rfl Try.sz3 rfl) ?_ | refine R.ev rfl (E.fieldAddrN 32 rfl Try.underlying24 rfl Try.sz3 rfl) ?_
        refine R.ev rfl (E.load1 rfl Try.underlying3 rfl (by first | exact hs.ldc | exact hs.ld rfl | exact hs.ld (by assumption) | exact by assumption | exact At.cellC (by assumption))) ?_
        refine R.call ⟨_, _, Try.func22, rfl, by kernel_rfl⟩ rfl rfl (forget_any y.x.arr hI9.ord (hs.front (F := F9))) ?_
        rintro v15 w15 ⟨F10, G10, r10, hw10, hs1⟩
        have hs := hs.back2 (F := F9) hs1
        have hI10 := hI9.forget y.x.arr
        refine R.done ?_
        refine X.keep [(1, _), (5, _), (6, _), (7, _), (13, _), (14, _)] ⟨rfl, rfl, rfl, rfl, rfl, rfl, trivial⟩ ?_
        refine X.blockNormal ?_
        refine X.next ?_
        refine C.region ?_
        refine R.ev rfl (E.move rfl) ?_
        refine R.ev rfl (E.add rfl rfl (by omega) (by omega)) ?_
        refine R.ev rfl (E.assign rfl) ?_
        refine R.done ?_
        refine X.keep [(1, _), (5, _), (6, _), (7, _), (13, _), (14, _)] ⟨rfl, rfl, rfl, rfl, rfl, rfl, trivial⟩ ?_
        exact X.again (k + 1, _, _, F10) ⟨rfl, rfl, rfl, rfl, rfl, rfl, trivial⟩ ⟨by omega, by omega, hI10, hw10, hs.to⟩ (by show _ - _ < _ - _; omega)
      · refine C.exit ?_
        refine X.thenExit ?_
        refine X.loopExit ?_
        refine X.blockExit ?_
        refine X.next ?_
        refine C.seq ?_
        refine C.region ?_
        refine R.ev rfl (E.move rfl) ?_
        refine R.call ⟨_, _, Try.func28, rfl, by kernel_rfl⟩ rfl rfl (entries_any hI.ord hs) ?_
        rintro v16 w16 ⟨F16, r16, hs⟩
        refine R.ev rfl (E.move rfl) ?_
        refine R.call ⟨_, _, Try.func27, rfl, by kernel_rfl⟩ rfl rfl (rsame_any (L := L) (M := L) hs (by omega)) ?_
        rintro _ w163 ⟨rfl, hs⟩
        rw [decide_eq_true rfl]
        refine R.ev rfl (E.move rfl) ?_
        refine R.gyes rfl rfl ?_
        refine R.ev rfl (E.move rfl) ?_
        refine R.gyes rfl rfl ?_
        refine R.call ⟨_, _, Try.func26, rfl, by kernel_rfl⟩ rfl rfl (cutoff_any hs) ?_
        rintro _ w166 ⟨rfl, hs⟩
        refine R.gyes rfl rfl ?_
        refine R.ev rfl (E.move rfl) ?_
        refine R.gyes rfl rfl ?_
        refine R.ev rfl ((E.eql rfl rfl).isT rfl) ?_
        refine R.ev rfl (E.pickT rfl rfl) ?_
        refine R.ev rfl (E.move rfl) ?_
        refine R.gyes rfl rfl ?_
        refine R.ev rfl (E.move rfl) ?_
        refine R.gyes rfl rfl ?_
        refine R.call ⟨_, _, Try.func32, rfl, by kernel_rfl⟩ rfl rfl (equalNil_any hs) ?_
        rintro _ w1612 ⟨rfl, hs⟩
        refine R.gyes rfl rfl ?_
        refine R.ev rfl ((E.not rfl).isB (c := true) rfl) ?_
        refine R.ev rfl (E.pickT rfl rfl) ?_
        refine R.ev rfl (E.assign rfl) ?_
        refine R.done ?_
        refine X.keep [(4, _)] ⟨rfl, trivial⟩ ?_
        refine X.next ?_
        refine C.ret ?_
        refine X.ret1 rfl rfl ?_
        exact ⟨rfl, (hs.less (hk3.trans hk4).le).mod⟩
    · refine R.gskip rfl rfl rfl ?_
      refine R.gskip rfl rfl rfl ?_
      refine R.ev rfl (E.pickF rfl rfl) ?_
      refine R.done ?_
      refine X.keep [(1, _), (5, _), (6, _), (7, _), (13, _), (14, _), (68, _)] ⟨rfl, rfl, rfl, rfl, rfl, rfl, rfl, trivial⟩ ?_
      refine X.next ?_
      refine C.cfalse rfl ?_
      refine C.exit ?_
      refine X.thenExit ?_
      refine X.loopExit ?_
      refine X.blockExit ?_
      refine X.next ?_
      refine C.seq ?_
      refine C.region ?_
      refine R.ev rfl (E.move rfl) ?_
      refine R.call ⟨_, _, Try.func28, rfl, by kernel_rfl⟩ rfl rfl (entries_any hI.ord hs) ?_
      rintro v16 w16 ⟨F16, r16, hs⟩
      refine R.ev rfl (E.move rfl) ?_
      refine R.call ⟨_, _, Try.func27, rfl, by kernel_rfl⟩ rfl rfl (rsame_any (L := L) (M := L) hs (by omega)) ?_
      rintro _ w163 ⟨rfl, hs⟩
      rw [decide_eq_true rfl]
      refine R.ev rfl (E.move rfl) ?_
      refine R.gyes rfl rfl ?_
      refine R.ev rfl (E.move rfl) ?_
      refine R.gyes rfl rfl ?_
      refine R.call ⟨_, _, Try.func26, rfl, by kernel_rfl⟩ rfl rfl (cutoff_any hs) ?_
      rintro _ w166 ⟨rfl, hs⟩
      refine R.gyes rfl rfl ?_
      refine R.ev rfl (E.move rfl) ?_
      refine R.gyes rfl rfl ?_
      refine R.ev rfl ((E.eql rfl rfl).isT rfl) ?_
      refine R.ev rfl (E.pickT rfl rfl) ?_
      refine R.ev rfl (E.move rfl) ?_
      refine R.gyes rfl rfl ?_
      refine R.ev rfl (E.move rfl) ?_
      refine R.gyes rfl rfl ?_
      refine R.call ⟨_, _, Try.func32, rfl, by kernel_rfl⟩ rfl rfl (equalNil_any hs) ?_
      rintro _ w1612 ⟨rfl, hs⟩
      refine R.gyes rfl rfl ?_
      refine R.ev rfl ((E.not rfl).isB (c := true) rfl) ?_
      refine R.ev rfl (E.pickT rfl rfl) ?_
      refine R.ev rfl (E.assign rfl) ?_
      refine R.done ?_
      refine X.keep [(4, _)] ⟨rfl, trivial⟩ ?_
      refine X.next ?_
      refine C.ret ?_
      refine X.ret1 rfl rfl ?_
      exact ⟨rfl, (hs.less (hk3.trans hk4).le).mod⟩

namespace historyClones
open Go.ChangeShapes Go.WideShapes Go.ChangeAt Go.RowKit
open Go.ChangeMaps (open_string shut_string)
set_option linter.unusedVariables false

theorem own : ownKnob Try.prog.godebug = none := by kernel_rfl
theorem laidOut : laidOutB Try.prog = true := by kernel_rfl
set_option maxRecDepth 100000 in
theorem lifted (os : Os) (started : os.Started) (H : Type) (enc : TypeId × Value → H) :
    ReturnsInHanded {} Try.checked os 8 .any (Rows.historyClonesSpec.pre6 enc Try.prog Try.f8 Rows.historyClonesRow.domain false) (Rows.historyClonesSpec.post enc Try.prog Try.f8 false true false false) := by
  refine returnsInHanded_of_change (C := Try.checked) own started (by kernel_rfl) Try.func8
    (ChangeSpec.witness6 (enc := enc) (C := Try.checked) false ⟨#[], #[.slice none 0 0, .slice none 0 0], []⟩ 8 (by kernel_rfl) (by kernel_rfl) (by kernel_rfl) (by kernel_rfl)) ?_
  intro W base args ds gs before hval0 hW hcnd _
  have hval : ∀ (j : Nat) t v, Try.f8.params[j]? = some t → args[j]? = some v → Value.okWide Try.prog W .any base t v := hval0
  have hW' := hW
  obtain ⟨p, q, hA0, hV, rfl, hfz, hnd⟩ := hW
  have hA : DataW.TrodAll enc Try.prog W 0 (fun _ => true) true Try.f8.params.toList args.toList ds p := hA0
  rw [Try.params8] at hA hval
  obtain ⟨v0, vs0, d0, ds0, p0, q0, hargs, rfl, rfl, h0, r0⟩ := trodAll_cons hA
  obtain ⟨v1, vs1, d1, ds1, p1, q1, rfl, rfl, rfl, h1, r1⟩ := trodAll_cons r0
  obtain ⟨rfl, rfl, rfl⟩ := trodAll_nil r1
  obtain rfl : args = #[v0, v1] := by cases args; simp_all
  obtain ⟨rfl, rfl⟩ := trodVars_none hV
  have lt0 : ∀ x ∈ p0, x.block < W.heap.size := by obtain ⟨m, hm⟩ := h0; exact DataW.trod_lt m _ _ _ hm
  have a0 := Eng.argv_of (hval 0 34 v0 rfl rfl) h0
  have lt1 : ∀ x ∈ p1, x.block < W.heap.size := by obtain ⟨m, hm⟩ := h1; exact DataW.trod_lt m _ _ _ hm
  have a1 := Eng.argv_of (hval 1 34 v1 rfl rfl) h1
  clear hA0 hval0
  refine Calls.mono (clones_walk W v0 a0 v1 a1) fun e W' ⟨v, he, hv, hm⟩ => ?_
  subst he
  subst hv
  have bel := hm.below
  exact ⟨_, rfl, _, _, _, [], _, [], hW', trodAll_mk1 (shut_bool Try.underlying4 _), (trodAll_cons_mk (Below.trod laidOut (by kernel_rfl) (of_decide_eq_true (by kernel_rfl)) h0 bel lt0) (trodAll_cons_mk (Below.trod laidOut (by kernel_rfl) (of_decide_eq_true (by kernel_rfl)) h1 bel lt1) trodAll_mk0)), rfl, bel.frame _, fun h => by cases h⟩

theorem over : Rows.historyClonesRow.holds Try.pinned (OpenSpec.ofChange Rows.historyClonesSpec) :=
  OpenClaim.holds_of_wide 8 Try.f8 rfl rfl rfl rfl rfl rfl rfl ⟨rfl, rfl, rfl, rfl, rfl⟩ rfl rfl rfl rfl rfl (by kernel_rfl) Try.func8 (by kernel_rfl)
    (of_decide_eq_true (by kernel_rfl)) (by unfold Func.isWrapper; first | (rw [if_pos (by decide +kernel)]; kernel_rfl) | (rw [if_neg (by decide +kernel)]; exact ⟨rfl, rfl⟩))
    (fun os started H enc _ => lifted os started H enc)
end historyClones
/-- the statement -/
theorem historyClones_holds : Rows.HistoryClonesSaid := historyClones.over
#print axioms historyClones_holds
end Go.Proofs.Ytobhhnfckhbeeaa
