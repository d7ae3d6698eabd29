/-
  BacklogDecode returns true for every input. No condition.
-/
import Derived.Test.YtoidpcmcbmioiaaRows
import Derived.Test.YtoidpcmcbmioiaaRefE
namespace Go.Proofs.Ytoidpcmcbmioiaa
open Go.Eng Go.RowKit

theorem argv_bs {w : World} {v : Value} (h : ArgV Try.prog w 57 v) : ∃ ad cap, ∃ L : List UInt8, v = .slice ad L.length cap ∧ L.length ≤ cap ∧ cap ≤ maxLen ∧ KRow encB 1 (Kn.of w) v L :=
  argv_slK h Try.underlying57 (by kernel_rfl) (by decide) (fun _ _ _ h => fit_u8 h Try.underlying5)
theorem decode_walk (w : World) (v0 : Value) (a0 : ArgV Try.prog w 57 v0) : Ret Try.prog 7 #[v0] w fun r w' => r = .bool true ∧ Mod [] w w' := by
  obtain ⟨ad, cap, P, rfl, hc, hcm, hr⟩ := argv_bs a0
  have hs := Sat.start w
  by_cases hz : decE P = 0
  · obtain ⟨hI, hby⟩ := dec_in hz
    have hlen : (decS P).L.length ≤ 4096 := by have := hI.le; have := hI.cp; omega
    have hne : P ≠ [] := by intro e; have := bytesB_len (decS P); rw [hby, e] at this; simp at this; omega
    refine Ret.enter (n := 50) (args := [.slice ad P.length cap]) Try.func7 rfl rfl ?_
    refine C.keep [(0, _)] ⟨rfl, trivial⟩ ?_
    refine C.seq ?_
    refine C.region ?_
    refine R.ev rfl (E.assign rfl) ?_
    refine R.done ?_
    refine X.keep [(0, _)] ⟨rfl, trivial⟩ ?_
    refine X.next ?_
    refine C.seq ?_
    refine C.seq ?_
    refine C.region ?_
    refine R.call ⟨_, _, Try.func12, rfl, by kernel_rfl⟩ rfl rfl (known_any hs) ?_
    rintro _ w1 ⟨rfl, hs⟩
    refine R.ev rfl (E.notT rfl) ?_
    refine R.ev rfl (E.move rfl) ?_
    refine R.gyes rfl rfl ?_
    refine R.ev rfl (E.move rfl) ?_
    refine R.gyes rfl rfl ?_
    refine R.ev rfl (E.lenSl rfl Try.underlying57) ?_
    refine R.gyes rfl rfl ?_
    refine R.ev rfl (E.gtr rfl rfl) ?_
    refine R.ev rfl (E.pickF rfl rfl) ?_
    refine R.done ?_
    refine X.keep [(0, _), (13, _)] ⟨rfl, rfl, trivial⟩ ?_
    refine X.next ?_
    refine C.cdec rfl (fun h13 => ?_) (fun h13 => ?_)
    · refine C.seq ?_
      refine C.region ?_
      refine R.call ⟨_, _, Try.func12, rfl, by kernel_rfl⟩ rfl rfl (known_any hs) ?_
      rintro _ w2 ⟨rfl, hs⟩
      refine R.ev rfl (E.assign rfl) ?_
      refine R.done ?_
      refine X.keep [(2, _)] ⟨rfl, trivial⟩ ?_
      refine X.next ?_
      refine C.ret ?_
      refine X.thenRet ?_
      refine X.ret1 rfl rfl ?_
      exact ⟨rfl, hs.mod⟩
    · refine C.skip ?_
      refine X.next ?_
      refine C.seq ?_
      refine C.region ?_
      refine R.ev rfl (E.move rfl) ?_
      refine R.call ⟨_, _, Try.func30, rfl, by kernel_rfl⟩ rfl rfl (decode_any (P := P) hs) ?_
      rintro _ w3 ⟨K3, hk3, h3⟩
      obtain ⟨q, F3, rfl, hw3, hs⟩ : ∃ q F, _ = Value.tuple #[ptr q, .int .i64 0] ∧ BkL q (decS P) F ∧ Sat K3 w3 (F :: _) := by
        rcases h3 with ⟨h, _⟩ | ⟨_, h⟩
        · exact absurd hz h
        · exact h
      refine R.ev rfl (E.move rfl) ?_
      refine R.ev rfl (E.extract rfl rfl) ?_
      refine R.ev rfl (E.extract rfl rfl) ?_
      refine R.ev rfl (E.assign rfl) ?_
      refine R.ev rfl (E.assign rfl) ?_
      refine R.done ?_
      refine X.keep [(0, _), (3, _), (4, _)] ⟨rfl, rfl, rfl, trivial⟩ ?_
      refine X.next ?_
      refine C.seq ?_
      refine C.region ?_
      refine R.ev rfl (E.move rfl) ?_
      refine R.call ⟨_, _, Try.func31, rfl, by kernel_rfl⟩ rfl rfl (rdecode_any (P := P) hs (by omega)) ?_
      rintro _ w4 ⟨K4, s4, v4, rfl, hk4, h4, r4, hs⟩
      have h4 := h4 hz
      subst h4
      rw [hz]
      have o4 : OneC v4 := ⟨KRow.oneC' r4⟩
      refine R.ev rfl (E.move rfl) ?_
      refine R.ev rfl (E.extract rfl rfl) ?_
      refine R.ev rfl (E.extract rfl rfl) ?_
      refine R.sallocA hs Try.zr52 rfl ?_
      intro b5 w5 hs
      first | refine R.cstoreAll hs rfl rfl Try.sz52 (by first | rfl | assumption | exact encV_len _ | exact Enc.len _ | exact len_ub (by assumption) | simp [*]) (by first | rfl | assumption | exact encV_len _ | exact Enc.len _ | exact len_ub (by assumption) | simp [*]) (by first | assumption | exact OneL.all | exact Enc.one _ | exact ub_all _ | (repeat' (first | refine List.forall_mem_cons.2 ⟨?_, ?_⟩ | exact List.forall_mem_nil _ | rfl | exact OneC.one | exact KRow.oneC' (by assumption)))) ?_ | refine R.cstore hs rfl rfl Try.sz52 (by first | rfl | assumption | exact encV_len _ | exact Enc.len _ | exact len_ub (by assumption) | simp [*]) (by simp [*]) (by first | assumption | exact OneL.all | exact Enc.one _ | exact ub_all _ | (repeat' (first | refine List.forall_mem_cons.2 ⟨?_, ?_⟩ | exact List.forall_mem_nil _ | rfl | exact OneC.one | exact KRow.oneC' (by assumption)))) ?_
      intro w4_6 hs
      try simp only [List.set_cons_zero, List.set_cons_succ] at hs
      refine R.ev rfl (E.assign rfl) ?_
      refine R.done ?_
      refine X.keep [(0, _), (3, _), (4, _), (5, _), (6, _)] ⟨rfl, rfl, rfl, rfl, rfl, trivial⟩ ?_
      refine X.next ?_
      refine C.seq ?_
      refine C.seq ?_
      refine C.region ?_
      refine R.ev rfl (E.move rfl) ?_
      refine R.ev rfl (E.move rfl) ?_
      refine R.ev rfl ((E.neq rfl rfl).isF (by omega)) ?_
      refine R.ev rfl (E.move rfl) ?_
      refine R.gyes rfl rfl ?_
      refine R.ev rfl (E.move rfl) ?_
      refine R.gyes rfl rfl ?_
      refine R.ev rfl (E.eqlNilF rfl rfl Try.underlying25) ?_
      refine R.gyes rfl rfl ?_
      refine R.ev rfl (E.move rfl) ?_
      refine R.gyes rfl rfl ?_
      refine R.ev rfl ((E.neq rfl rfl).isF (by omega)) ?_
      refine R.gyes rfl rfl ?_
      refine R.ev rfl ((E.neqB rfl rfl Try.underlying4).isB (c := false) rfl) ?_
      refine R.ev rfl (E.pickF rfl rfl) ?_
      refine R.done ?_
      refine X.keep [(0, _), (3, _), (5, _), (34, _)] ⟨rfl, rfl, rfl, rfl, trivial⟩ ?_
      refine X.next ?_
      refine C.cfalse rfl ?_
      refine C.skip ?_
      refine X.next ?_
      refine C.seq ?_
      refine C.drawn (SatS hs) ([4], [0, 1, 2, 3, 6, 7, 10, 12, 13, 14, 15]) (by kernel_rfl) ?_
      have hs := hs.drew
      refine D.evP 0 rfl (by kernel_rfl) rfl (fun _ => hs.to) (fun _ => E.move rfl) ?_
      refine D.evP 1 rfl (by kernel_rfl) rfl (fun _ => hs.to) (fun _ => E.eqlNilF rfl rfl Try.underlying25) ?_
      refine D.evP 2 rfl (by kernel_rfl) rfl (fun _ => hs.to) (fun _ => E.move rfl) ?_
      refine D.evPG 3 rfl (by kernel_rfl) rfl rfl rfl (fun _ => hs.to) (fun _ => E.move rfl) ?_
      refine D.evG 4 rfl (by kernel_rfl) rfl rfl rfl hs.to (fun _ hS => E.loadRowC rfl Try.underlying52 rfl Try.sz52 (by first | exact ⟨hS.ldA, by first | rfl | assumption | exact encV_len _ | exact Enc.len _ | exact len_ub (by assumption)⟩ | exact ⟨hS.ldP rfl, by first | rfl | assumption | exact encV_len _ | exact Enc.len _ | exact len_ub (by assumption)⟩ | exact ⟨hS.ldM rfl rfl, by first | rfl | assumption | exact encV_len _ | exact Enc.len _ | exact len_ub (by assumption)⟩ | exact ⟨hS.ldM (by assumption) (by first | rfl | assumption), by first | rfl | assumption | exact encV_len _ | exact Enc.len _ | exact len_ub (by assumption)⟩ | exact ⟨by assumption, by first | rfl | assumption | exact encV_len _ | exact Enc.len _ | exact len_ub (by assumption)⟩ | exact ⟨(by assumption : ∀ w', Sat _ w' _ → At w' _ _ _) _ hS, by first | rfl | assumption | exact encV_len _ | exact Enc.len _ | exact len_ub (by assumption)⟩ | exact hS.ldp | exact At.partC (by assumption) | exact At.partC ((by assumption : ∀ w', Sat _ w' _ → At w' _ _ _) _ hS))) ?_
      refine D.act 5 rfl (by kernel_rfl) ?_
      refine R.gyes rfl rfl ?_
      refine R.call ⟨_, _, Try.func29, rfl, by kernel_rfl⟩ rfl rfl (view_any (s := decS P) (v := v4) hI hs) ?_
      rintro _ w7 ⟨rfl, hs⟩
      refine D.backT (by kernel_rfl) ?_
      refine D.evPG 6 rfl (by kernel_rfl) rfl rfl rfl (np (by kernel_rfl)) (fun _ => E.move rfl) ?_
      refine D.evPG 7 rfl (by kernel_rfl) rfl rfl rfl (np (by kernel_rfl)) (fun _ => E.move rfl) ?_
      refine D.evPG 10 rfl (by kernel_rfl) rfl rfl rfl (np (by kernel_rfl)) (fun _ => E.move rfl) ?_
      refine D.act2 8 11 rfl rfl (by kernel_rfl) ?_ ?_
      · refine R.gyes rfl rfl ?_
        refine R.call ⟨_, _, Try.func32, rfl, by kernel_rfl⟩ rfl rfl (encode_any (s := decS P) hs (by omega)) ?_
        rintro v43 w8 ⟨F8, r8, hs⟩
        rw [hby] at r8
        obtain ⟨ad8, cap8, rfl, _⟩ := r8.val
        refine D.backT (by kernel_rfl) ?_
        refine D.act2 9 11 rfl rfl (by kernel_rfl) ?_ ?_
        · refine R.gyes rfl rfl ?_
          refine R.ev rfl (E.bytesRd hs rfl Try.underlying57 Try.underlying5 Try.underlying9 hne) ?_
          refine D.backT (by kernel_rfl) ?_
          refine D.act 11 rfl (by kernel_rfl) ?_
          refine R.gyes rfl rfl ?_
          refine R.ev rfl (E.bytesRd hs rfl Try.underlying57 Try.underlying5 Try.underlying9 hne) ?_
          refine D.backT (by kernel_rfl) ?_
          refine D.evPG 12 rfl (by kernel_rfl) rfl rfl rfl (np (by kernel_rfl)) (fun _ => (E.seql rfl rfl).isT rfl) ?_
          refine D.evPG 13 rfl (by kernel_rfl) rfl rfl rfl (np (by kernel_rfl)) (fun _ => E.pickT rfl rfl) ?_
          refine D.evP 14 rfl (by kernel_rfl) rfl (np (by kernel_rfl)) (fun _ => E.pickF rfl rfl) ?_
          refine D.evP 15 rfl (by kernel_rfl) rfl (np (by kernel_rfl)) (fun _ => E.assign rfl) ?_
          refine D.done rfl (by kernel_rfl) ?_
          refine X.keep [(2, _)] ⟨rfl, trivial⟩ ?_
          refine X.next ?_
          refine C.ret ?_
          refine X.ret1 rfl rfl ?_
          exact ⟨rfl, (hs.less (hk3.trans hk4).le).mod⟩
        · refine R.gyes rfl rfl ?_
          refine R.ev rfl (E.bytesRd hs rfl Try.underlying57 Try.underlying5 Try.underlying9 hne) ?_
          refine D.backT (by kernel_rfl) ?_
          refine D.act 9 rfl (by kernel_rfl) ?_
          refine R.gyes rfl rfl ?_
          refine R.ev rfl (E.bytesRd hs rfl Try.underlying57 Try.underlying5 Try.underlying9 hne) ?_
          refine D.backT (by kernel_rfl) ?_
          refine D.evPG 12 rfl (by kernel_rfl) rfl rfl rfl (np (by kernel_rfl)) (fun _ => (E.seql rfl rfl).isT rfl) ?_
          refine D.evPG 13 rfl (by kernel_rfl) rfl rfl rfl (np (by kernel_rfl)) (fun _ => E.pickT rfl rfl) ?_
          refine D.evP 14 rfl (by kernel_rfl) rfl (np (by kernel_rfl)) (fun _ => E.pickF rfl rfl) ?_
          refine D.evP 15 rfl (by kernel_rfl) rfl (np (by kernel_rfl)) (fun _ => E.assign rfl) ?_
          refine D.done rfl (by kernel_rfl) ?_
          refine X.keep [(2, _)] ⟨rfl, trivial⟩ ?_
          refine X.next ?_
          refine C.ret ?_
          refine X.ret1 rfl rfl ?_
          exact ⟨rfl, (hs.less (hk3.trans hk4).le).mod⟩
      · refine R.gyes rfl rfl ?_
        refine R.ev rfl (E.bytesRd hs rfl Try.underlying57 Try.underlying5 Try.underlying9 hne) ?_
        refine D.backT (by kernel_rfl) ?_
        refine D.act 8 rfl (by kernel_rfl) ?_
        refine R.gyes rfl rfl ?_
        refine R.call ⟨_, _, Try.func32, rfl, by kernel_rfl⟩ rfl rfl (encode_any (s := decS P) hs (by omega)) ?_
        rintro v43 w8 ⟨F8, r8, hs⟩
        rw [hby] at r8
        obtain ⟨ad8, cap8, rfl, _⟩ := r8.val
        refine D.backT (by kernel_rfl) ?_
        refine D.act 9 rfl (by kernel_rfl) ?_
        refine R.gyes rfl rfl ?_
        refine R.ev rfl (E.bytesRd hs rfl Try.underlying57 Try.underlying5 Try.underlying9 hne) ?_
        refine D.backT (by kernel_rfl) ?_
        refine D.evPG 12 rfl (by kernel_rfl) rfl rfl rfl (np (by kernel_rfl)) (fun _ => (E.seql rfl rfl).isT rfl) ?_
        refine D.evPG 13 rfl (by kernel_rfl) rfl rfl rfl (np (by kernel_rfl)) (fun _ => E.pickT rfl rfl) ?_
        refine D.evP 14 rfl (by kernel_rfl) rfl (np (by kernel_rfl)) (fun _ => E.pickF rfl rfl) ?_
        refine D.evP 15 rfl (by kernel_rfl) rfl (np (by kernel_rfl)) (fun _ => E.assign rfl) ?_
        refine D.done rfl (by kernel_rfl) ?_
        refine X.keep [(2, _)] ⟨rfl, trivial⟩ ?_
        refine X.next ?_
        refine C.ret ?_
        refine X.ret1 rfl rfl ?_
        exact ⟨rfl, (hs.less (hk3.trans hk4).le).mod⟩
  · have hs := hs
    refine Ret.enter (n := 50) (args := [.slice ad P.length cap]) Try.func7 rfl rfl ?_
    refine C.keep [(0, _)] ⟨rfl, trivial⟩ ?_
    refine C.seq ?_
    refine C.region ?_
    refine R.ev rfl (E.assign rfl) ?_
    refine R.done ?_
    refine X.keep [(0, _)] ⟨rfl, trivial⟩ ?_
    refine X.next ?_
    refine C.seq ?_
    refine C.seq ?_
    refine C.region ?_
    refine R.call ⟨_, _, Try.func12, rfl, by kernel_rfl⟩ rfl rfl (known_any hs) ?_
    rintro _ w1 ⟨rfl, hs⟩
    refine R.ev rfl (E.notT rfl) ?_
    refine R.ev rfl (E.move rfl) ?_
    refine R.gyes rfl rfl ?_
    refine R.ev rfl (E.move rfl) ?_
    refine R.gyes rfl rfl ?_
    refine R.ev rfl (E.lenSl rfl Try.underlying57) ?_
    refine R.gyes rfl rfl ?_
    refine R.ev rfl (E.gtr rfl rfl) ?_
    refine R.ev rfl (E.pickF rfl rfl) ?_
    refine R.done ?_
    refine X.keep [(0, _), (13, _)] ⟨rfl, rfl, trivial⟩ ?_
    refine X.next ?_
    refine C.cdec rfl (fun h13 => ?_) (fun h13 => ?_)
    · refine C.seq ?_
      refine C.region ?_
      refine R.call ⟨_, _, Try.func12, rfl, by kernel_rfl⟩ rfl rfl (known_any hs) ?_
      rintro _ w2 ⟨rfl, hs⟩
      refine R.ev rfl (E.assign rfl) ?_
      refine R.done ?_
      refine X.keep [(2, _)] ⟨rfl, trivial⟩ ?_
      refine X.next ?_
      refine C.ret ?_
      refine X.thenRet ?_
      refine X.ret1 rfl rfl ?_
      exact ⟨rfl, hs.mod⟩
    · refine C.skip ?_
      refine X.next ?_
      refine C.seq ?_
      refine C.region ?_
      refine R.ev rfl (E.move rfl) ?_
      refine R.call ⟨_, _, Try.func30, rfl, by kernel_rfl⟩ rfl rfl (decode_any (P := P) hs) ?_
      rintro _ w3 ⟨K3, hk3, h3⟩
      obtain ⟨rfl, hs⟩ : _ = Value.tuple #[.pointer none, .int .i64 (decE P)] ∧ Sat K3 w3 _ := by
        rcases h3 with ⟨_, h⟩ | ⟨h, _⟩
        · exact h
        · exact absurd h hz
      refine R.ev rfl (E.move rfl) ?_
      refine R.ev rfl (E.extract rfl rfl) ?_
      refine R.ev rfl (E.extract rfl rfl) ?_
      refine R.ev rfl (E.assign rfl) ?_
      refine R.ev rfl (E.assign rfl) ?_
      refine R.done ?_
      refine X.keep [(0, _), (3, _), (4, _)] ⟨rfl, rfl, rfl, trivial⟩ ?_
      refine X.next ?_
      refine C.seq ?_
      refine C.region ?_
      refine R.ev rfl (E.move rfl) ?_
      refine R.call ⟨_, _, Try.func31, rfl, by kernel_rfl⟩ rfl rfl (rdecode_any (P := P) hs (by omega)) ?_
      rintro _ w4 ⟨K4, s4, v4, rfl, hk4, _, r4, hs⟩
      have o4 : OneC v4 := ⟨KRow.oneC' r4⟩
      refine R.ev rfl (E.move rfl) ?_
      refine R.ev rfl (E.extract rfl rfl) ?_
      refine R.ev rfl (E.extract rfl rfl) ?_
      refine R.sallocA hs Try.zr52 rfl ?_
      intro b5 w5 hs
      first | refine R.cstoreAll hs rfl rfl Try.sz52 (by first | rfl | assumption | exact encV_len _ | exact Enc.len _ | exact len_ub (by assumption) | simp [*]) (by first | rfl | assumption | exact encV_len _ | exact Enc.len _ | exact len_ub (by assumption) | simp [*]) (by first | assumption | exact OneL.all | exact Enc.one _ | exact ub_all _ | (repeat' (first | refine List.forall_mem_cons.2 ⟨?_, ?_⟩ | exact List.forall_mem_nil _ | rfl | exact OneC.one | exact KRow.oneC' (by assumption)))) ?_ | refine R.cstore hs rfl rfl Try.sz52 (by first | rfl | assumption | exact encV_len _ | exact Enc.len _ | exact len_ub (by assumption) | simp [*]) (by simp [*]) (by first | assumption | exact OneL.all | exact Enc.one _ | exact ub_all _ | (repeat' (first | refine List.forall_mem_cons.2 ⟨?_, ?_⟩ | exact List.forall_mem_nil _ | rfl | exact OneC.one | exact KRow.oneC' (by assumption)))) ?_
      intro w4_6 hs
      try simp only [List.set_cons_zero, List.set_cons_succ] at hs
      refine R.ev rfl (E.assign rfl) ?_
      refine R.done ?_
      refine X.keep [(0, _), (3, _), (4, _), (5, _), (6, _)] ⟨rfl, rfl, rfl, rfl, rfl, trivial⟩ ?_
      refine X.next ?_
      refine C.seq ?_
      refine C.seq ?_
      refine C.region ?_
      refine R.ev rfl (E.move rfl) ?_
      refine R.ev rfl (E.move rfl) ?_
      refine R.ev rfl ((E.neq rfl rfl).isF (fun h => h rfl)) ?_
      refine R.ev rfl (E.move rfl) ?_
      refine R.gyes rfl rfl ?_
      refine R.ev rfl (E.move rfl) ?_
      refine R.gyes rfl rfl ?_
      refine R.ev rfl (E.eqlNilT rfl rfl Try.underlying25) ?_
      refine R.gyes rfl rfl ?_
      refine R.ev rfl (E.move rfl) ?_
      refine R.gyes rfl rfl ?_
      refine R.ev rfl ((E.neq rfl rfl).isT hz) ?_
      refine R.gyes rfl rfl ?_
      refine R.ev rfl ((E.neqB rfl rfl Try.underlying4).isB (c := false) rfl) ?_
      refine R.ev rfl (E.pickF rfl rfl) ?_
      refine R.done ?_
      refine X.keep [(0, _), (3, _), (5, _), (34, _)] ⟨rfl, rfl, rfl, rfl, trivial⟩ ?_
      refine X.next ?_
      refine C.cfalse rfl ?_
      refine C.skip ?_
      refine X.next ?_
      refine C.seq ?_
      refine C.drawn (SatS hs) ([4, 9, 11], [0, 1, 2, 3, 6, 7, 10, 12, 13, 14, 15]) (by kernel_rfl) ?_
      have hs := hs.drew
      refine D.evP 0 rfl (by kernel_rfl) rfl (fun _ => hs.to) (fun _ => E.move rfl) ?_
      refine D.evP 1 rfl (by kernel_rfl) rfl (fun _ => hs.to) (fun _ => E.eqlNilT rfl rfl Try.underlying25) ?_
      refine D.evP 2 rfl (by kernel_rfl) rfl (fun _ => hs.to) (fun _ => E.move rfl) ?_
      refine D.skipP 3 rfl (by kernel_rfl) rfl rfl rfl (fun _ => hs.to) ?_
      refine D.skip 4 rfl (by kernel_rfl) rfl rfl rfl hs.to ?_
      refine D.act 5 rfl (by kernel_rfl) ?_
      refine R.gskip rfl rfl rfl ?_
      refine D.back hs.to ?_
      refine D.skipP 6 rfl (by kernel_rfl) rfl rfl rfl (fun _ => hs.to) ?_
      refine D.undefP 7 rfl (by kernel_rfl) rfl rfl (fun _ => hs.to) ?_
      refine D.undefP 10 rfl (by kernel_rfl) rfl rfl (fun _ => hs.to) ?_
      refine D.undef 11 rfl (by kernel_rfl) rfl rfl hs.to ?_
      refine D.act 8 rfl (by kernel_rfl) ?_
      refine R.gundef rfl rfl ?_
      refine D.back hs.to ?_
      refine D.undef 9 rfl (by kernel_rfl) rfl rfl hs.to ?_
      refine D.undefP 12 rfl (by kernel_rfl) rfl rfl (fun _ => hs.to) ?_
      refine D.skipP 13 rfl (by kernel_rfl) rfl rfl rfl (fun _ => hs.to) ?_
      refine D.evP 14 rfl (by kernel_rfl) rfl (fun _ => hs.to) (fun _ => E.pickT rfl rfl) ?_
      refine D.evP 15 rfl (by kernel_rfl) rfl (fun _ => hs.to) (fun _ => E.assign rfl) ?_
      refine D.done rfl (by kernel_rfl) ?_
      refine X.keep [(2, _)] ⟨rfl, trivial⟩ ?_
      refine X.next ?_
      refine C.ret ?_
      refine X.ret1 rfl rfl ?_
      exact ⟨rfl, (hs.less (hk3.trans hk4).le).mod⟩

namespace backlogDecode
open Go.ChangeShapes Go.WideShapes Go.ChangeAt Go.RowKit
open Go.ChangeMaps (open_string shut_string)
set_option linter.unusedVariables false

theorem own : ownKnob Try.prog.godebug = none := by kernel_rfl
theorem laidOut : laidOutB Try.prog = true := by kernel_rfl
set_option maxRecDepth 100000 in
theorem lifted (os : Os) (started : os.Started) (H : Type) (enc : TypeId × Value → H) :
    ReturnsInHanded {} Try.checked os 7 .any (Rows.backlogDecodeSpec.pre6 enc Try.prog Try.f7 Rows.backlogDecodeRow.domain false) (Rows.backlogDecodeSpec.post enc Try.prog Try.f7 false true false false) := by
  refine returnsInHanded_of_change (C := Try.checked) own started (by kernel_rfl) Try.func7
    (ChangeSpec.witness6 (enc := enc) (C := Try.checked) false ⟨#[], #[.slice none 0 0], []⟩ 8 (by kernel_rfl) (by kernel_rfl) (by kernel_rfl) (by kernel_rfl)) ?_
  intro W base args ds gs before hval0 hW hcnd _
  have hval : ∀ (j : Nat) t v, Try.f7.params[j]? = some t → args[j]? = some v → Value.okWide Try.prog W .any base t v := hval0
  have hW' := hW
  obtain ⟨p, q, hA0, hV, rfl, hfz, hnd⟩ := hW
  have hA : DataW.TrodAll enc Try.prog W 0 (fun _ => true) true Try.f7.params.toList args.toList ds p := hA0
  rw [Try.params7] at hA hval
  obtain ⟨v0, vs0, d0, ds0, p0, q0, hargs, rfl, rfl, h0, r0⟩ := trodAll_cons hA
  obtain ⟨rfl, rfl, rfl⟩ := trodAll_nil r0
  obtain rfl : args = #[v0] := by cases args; simp_all
  obtain ⟨rfl, rfl⟩ := trodVars_none hV
  have lt0 : ∀ x ∈ p0, x.block < W.heap.size := by obtain ⟨m, hm⟩ := h0; exact DataW.trod_lt m _ _ _ hm
  have a0 := Eng.argv_of (hval 0 57 v0 rfl rfl) h0
  clear hA0 hval0
  refine Calls.mono (decode_walk W v0 a0) fun e W' ⟨v, he, hv, hm⟩ => ?_
  subst he
  subst hv
  have bel := hm.below
  exact ⟨_, rfl, _, _, _, [], _, [], hW', trodAll_mk1 (shut_bool Try.underlying4 _), (trodAll_cons_mk (Below.trod laidOut (by kernel_rfl) (of_decide_eq_true (by kernel_rfl)) h0 bel lt0) trodAll_mk0), rfl, bel.frame _, fun h => by cases h⟩

theorem over : Rows.backlogDecodeRow.holds Try.pinned (OpenSpec.ofChange Rows.backlogDecodeSpec) :=
  OpenClaim.holds_of_wide 7 Try.f7 rfl rfl rfl rfl rfl rfl rfl ⟨rfl, rfl, rfl, rfl, rfl⟩ rfl rfl rfl rfl rfl (by kernel_rfl) Try.func7 (by kernel_rfl)
    (of_decide_eq_true (by kernel_rfl)) (by unfold Func.isWrapper; first | (rw [if_pos (by decide +kernel)]; kernel_rfl) | (rw [if_neg (by decide +kernel)]; exact ⟨rfl, rfl⟩))
    (fun os started H enc _ => lifted os started H enc)
end backlogDecode
/-- the statement -/
theorem backlogDecode_holds : Rows.BacklogDecodeSaid := backlogDecode.over
#print axioms backlogDecode_holds
end Go.Proofs.Ytoidpcmcbmioiaa
