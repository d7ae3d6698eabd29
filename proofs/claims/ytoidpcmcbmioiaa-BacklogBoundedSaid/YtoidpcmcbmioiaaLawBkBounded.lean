/-
  BacklogBounded returns true for every capacity and every list of operations. No condition.
-/
import Derived.Test.YtoidpcmcbmioiaaRows
import Derived.Test.YtoidpcmcbmioiaaBklI
namespace Go.Proofs.Ytoidpcmcbmioiaa
open Go.Eng Go.RowKit

theorem bounded_walk (w : World) (v0 : Value) (a0 : ArgV Try.prog w 5 v0) (v1 : Value) (a1 : ArgV Try.prog w 22 v1) : Ret Try.prog 3 #[v0, v1] w fun r w' => r = .bool true ∧ Mod [] w w' := by
  obtain ⟨cb, rfl⟩ := argv_u8 a0 Try.underlying5
  obtain ⟨ad, cap, ops, rfl, hc, hcm, hr, hok⟩ := argv_ops a1
  unfold maxLen at hcm
  have hs := Sat.start w
  have hnk : newOk (1 + ((cb.toNat % 8 : Nat) : Int)) 3 = true := by
    have : cb.toNat % 8 < 8 := Nat.mod_lt _ (by decide)
    simp [newOk, isCap, isWt]; omega
  have hn8 : cb.toNat % 8 < 8 := Nat.mod_lt _ (by decide)
  generalize hnn : cb.toNat % 8 = nn at hnk hn8
  refine Ret.enter (n := 97) (args := [ub cb, .slice ad ops.length cap]) Try.func3 rfl rfl ?_
  refine C.keep [(0, _), (1, _)] ⟨rfl, rfl, trivial⟩ ?_
  refine C.seq ?_
  refine C.region ?_
  refine R.ev rfl (E.assign rfl) ?_
  refine R.done ?_
  refine X.keep [(0, _), (1, _)] ⟨rfl, rfl, trivial⟩ ?_
  refine X.next ?_
  refine C.seq ?_
  refine C.seq ?_
  refine C.region ?_
  refine R.call ⟨_, _, Try.func12, rfl, by kernel_rfl⟩ rfl rfl (known_any hs) ?_
  rintro _ w1 ⟨rfl, hs⟩
  refine R.ev rfl (E.notT rfl) ?_
  refine R.ev rfl (E.move rfl) ?_
  refine R.gyes rfl rfl ?_
  refine R.ev rfl (E.move rfl) ?_
  refine R.gyes rfl rfl ?_
  refine R.call ⟨_, _, Try.func13, rfl, by kernel_rfl⟩ rfl rfl (small_any hs (by omega)) ?_
  rintro _ w2 ⟨rfl, hs⟩
  refine R.gyes rfl rfl ?_
  refine R.ev rfl ((E.not rfl).isB (c := !(smallB ops)) rfl) ?_
  refine R.ev rfl (E.pickF rfl rfl) ?_
  refine R.done ?_
  refine X.keep [(0, _), (1, _), (17, _)] ⟨rfl, rfl, rfl, trivial⟩ ?_
  refine X.next ?_
  refine C.cbool rfl (fun h17 => ?_) (fun h17 => ?_)
  · refine C.seq ?_
    refine C.region ?_
    refine R.call ⟨_, _, Try.func12, rfl, by kernel_rfl⟩ rfl rfl (known_any hs) ?_
    rintro _ w2 ⟨rfl, hs⟩
    refine R.ev rfl (E.assign rfl) ?_
    refine R.done ?_
    refine X.keep [(4, _)] ⟨rfl, trivial⟩ ?_
    refine X.next ?_
    refine C.ret ?_
    refine X.thenRet ?_
    refine X.ret1 rfl rfl ?_
    exact ⟨rfl, hs.mod⟩
  · refine C.skip ?_
    refine X.next ?_
    refine C.seq ?_
    refine C.region ?_
    have hsm : smallB ops = true := by simpa using h17
    have hol : ops.length ≤ 40 := by simp [smallB] at hsm; omega
    refine R.ev rfl (E.move rfl) ?_
    refine R.ev rfl ((E.rem rfl rfl (by decide) (by omega)).isI (c := (nn : Nat)) (by omega)) ?_
    refine R.ev rfl ((E.conv rfl Try.underlying5 Try.underlying3).isI (c := (nn : Nat)) (wrap_i64 (by omega) (by omega))) ?_
    refine R.ev rfl (E.add rfl rfl (by omega) (by omega)) ?_
    refine R.ev rfl (E.assign rfl) ?_
    refine R.done ?_
    refine X.keep [(1, _), (5, _)] ⟨rfl, rfl, trivial⟩ ?_
    refine X.next ?_
    refine C.seq ?_
    refine C.region ?_
    refine R.ev rfl (E.move rfl) ?_
    refine R.call ⟨_, _, Try.func14, rfl, by kernel_rfl⟩ rfl rfl (new_any (1 + ((nn : Nat) : Int)) 3 hs) ?_
    rintro _ w4 (⟨h, _⟩ | ⟨_, p, F, rfl, hw, hs⟩)
    · rw [hnk] at h; cases h
    refine R.ev rfl (E.move rfl) ?_
    refine R.ev rfl (E.extract rfl rfl) ?_
    refine R.ev rfl (E.extract rfl rfl) ?_
    refine R.ev rfl (E.assign rfl) ?_
    refine R.ev rfl (E.assign rfl) ?_
    refine R.done ?_
    refine X.keep [(1, _), (5, _), (6, _), (7, _)] ⟨rfl, rfl, rfl, rfl, trivial⟩ ?_
    refine X.next ?_
    refine C.seq ?_
    refine C.seq ?_
    refine C.region ?_
    refine R.ev rfl (E.move rfl) ?_
    refine R.ev rfl ((E.neq rfl rfl).isF (by decide)) ?_
    refine R.done ?_
    refine X.keep [(1, _), (5, _), (6, _), (29, _)] ⟨rfl, rfl, rfl, rfl, trivial⟩ ?_
    refine X.next ?_
    refine C.cfalse rfl ?_
    refine C.skip ?_
    refine X.next ?_
    refine C.seq ?_
    refine C.seq ?_
    refine C.region ?_
    refine R.ev rfl (E.assign rfl) ?_
    refine R.done ?_
    refine X.keep [(1, _), (5, _), (6, _), (8, _)] ⟨rfl, rfl, rfl, rfl, trivial⟩ ?_
    refine X.next ?_
    refine C.block ?_
    refine C.loop (T := Nat × Bk × Hl) [(1, _), (5, _), (6, _)] (fun (k, _, _) => [(8, .int .i64 (k : Nat))]) (fun (k, s, F') w' => k ≤ ops.length ∧ BInv s ∧ s.cap = 1 + ((nn : Nat) : Int) ∧ BkL p s F' ∧ Sat (Kn.of w) w' (F' :: [])) (fun (k, _) => ops.length - k) ((0, ⟨1 + ((nn : Nat) : Int), 3, false, [], []⟩, F)) ⟨rfl, rfl, rfl, rfl, trivial⟩ ⟨by omega, BInv.start hnk, rfl, hw, hs⟩ ?_
    rintro ⟨k, s, F1⟩ w1 ⟨hk, hinv, hcap, hw1, hs⟩
    have hle := hinv.le
    rw [hcap] at hle
    refine C.keep [(1, _), (5, _), (6, _), (8, _)] ⟨rfl, rfl, rfl, rfl, trivial⟩ ?_
    refine C.seq ?_
    refine C.seq ?_
    refine C.region ?_
    refine R.ev rfl (E.move rfl) ?_
    refine R.ev rfl (E.move rfl) ?_
    refine R.ev rfl (E.lenSl rfl Try.underlying22) ?_
    refine R.ev rfl (E.lss rfl rfl) ?_
    refine R.done ?_
    refine X.keep [(1, _), (5, _), (6, _), (8, _), (33, _)] ⟨rfl, rfl, rfl, rfl, rfl, trivial⟩ ?_
    refine X.next ?_
    refine C.cdec rfl (fun h33 => ?_) (fun h33 => ?_)
    · obtain ⟨y, bk_y, of_y, hy, my, ly, rfl, Ay⟩ := hs.el (i := k) (ad := ad) (n := ops.length) (c := cap) (by omega)
      have ay := Ay _ hs
      have hinv2 := hinv.add y.id 1
      have hle2 := hinv2.le
      refine C.skip ?_
      refine X.next ?_
      refine C.seq ?_
      refine C.block ?_
      refine C.seq ?_
      refine C.region ?_
      refine R.ev rfl (E.move rfl) ?_
      refine R.ev rfl (E.move rfl) ?_
      refine R.ev rfl (E.indexAddr rfl rfl Try.underlying22 Try.sz33 rfl (by first | omega | decide)) ?_
      first | refine R.ev rfl (E.fieldAddr0 1 rfl Try.underlying33 rfl Try.sz29 rfl) ?_ | refine R.ev rfl (E.fieldAddrN 1 rfl Try.underlying33 rfl Try.sz29 rfl) ?_
      refine R.ev rfl (E.loadRowC rfl Try.underlying29 rfl Try.sz29 (by first | exact ⟨hs.ldA, by first | rfl | assumption | exact encV_len _ | exact Enc.len _ | exact len_ub (by assumption)⟩ | exact ⟨hs.ldP rfl, by first | rfl | assumption | exact encV_len _ | exact Enc.len _ | exact len_ub (by assumption)⟩ | exact ⟨hs.ldM rfl rfl, by first | rfl | assumption | exact encV_len _ | exact Enc.len _ | exact len_ub (by assumption)⟩ | exact ⟨hs.ldM (by assumption) (by first | rfl | assumption), by first | rfl | assumption | exact encV_len _ | exact Enc.len _ | exact len_ub (by assumption)⟩ | exact ⟨by assumption, by first | rfl | assumption | exact encV_len _ | exact Enc.len _ | exact len_ub (by assumption)⟩ | exact hs.ldp | exact At.partC (by assumption))) ?_
      refine R.sallocA hs Try.zr30 rfl ?_
      intro b9 w9 hs
      first | refine R.cstoreAll hs rfl rfl Try.sz30 (by first | rfl | assumption | exact encV_len _ | exact Enc.len _ | exact len_ub (by assumption) | simp [*]) (by first | rfl | assumption | exact encV_len _ | exact Enc.len _ | exact len_ub (by assumption) | simp [*]) (by first | assumption | exact OneL.all | exact Enc.one _ | exact ub_all _ | (repeat' (first | refine List.forall_mem_cons.2 ⟨?_, ?_⟩ | exact List.forall_mem_nil _ | rfl | exact OneC.one | exact KRow.oneC' (by assumption)))) ?_ | refine R.cstore hs rfl rfl Try.sz30 (by first | rfl | assumption | exact encV_len _ | exact Enc.len _ | exact len_ub (by assumption) | simp [*]) (by simp [*]) (by first | assumption | exact OneL.all | exact Enc.one _ | exact ub_all _ | (repeat' (first | refine List.forall_mem_cons.2 ⟨?_, ?_⟩ | exact List.forall_mem_nil _ | rfl | exact OneC.one | exact KRow.oneC' (by assumption)))) ?_
      intro w10_6 hs
      try simp only [List.set_cons_zero, List.set_cons_succ] at hs
      refine R.done ?_
      refine X.keep [(1, _), (5, _), (6, _), (8, _), (9, _)] ⟨rfl, rfl, rfl, rfl, rfl, trivial⟩ ?_
      refine X.next ?_
      refine C.seq ?_
      refine C.region ?_
      refine R.ev rfl (E.move rfl) ?_
      refine R.ev rfl (E.loadRowC rfl Try.underlying30 rfl Try.sz30 (by first | exact ⟨hs.ldA, by first | rfl | assumption | exact encV_len _ | exact Enc.len _ | exact len_ub (by assumption)⟩ | exact ⟨hs.ldP rfl, by first | rfl | assumption | exact encV_len _ | exact Enc.len _ | exact len_ub (by assumption)⟩ | exact ⟨hs.ldM rfl rfl, by first | rfl | assumption | exact encV_len _ | exact Enc.len _ | exact len_ub (by assumption)⟩ | exact ⟨hs.ldM (by assumption) (by first | rfl | assumption), by first | rfl | assumption | exact encV_len _ | exact Enc.len _ | exact len_ub (by assumption)⟩ | exact ⟨by assumption, by first | rfl | assumption | exact encV_len _ | exact Enc.len _ | exact len_ub (by assumption)⟩ | exact hs.ldp | exact At.partC (by assumption))) ?_
      refine R.call ⟨_, _, Try.func15, rfl, by kernel_rfl⟩ rfl rfl (add_any y.id 1 (hs.front (F := F1)) (by omega)) ?_
      rintro _ w11 ⟨rfl, F11, hw11, hs1⟩
      have hs := hs.back (F := F1) hs1
      refine R.ev rfl (E.assign rfl) ?_
      refine R.done ?_
      refine X.keep [(1, _), (5, _), (6, _), (8, _), (9, _), (10, _)] ⟨rfl, rfl, rfl, rfl, rfl, rfl, trivial⟩ ?_
      refine X.next ?_
      refine C.seq ?_
      refine C.seq ?_
      refine C.region ?_
      rcases add_cases s y.id 1 (by decide) with ⟨hE, hz, hh, hfull, hS⟩ | ⟨hE, hz, hh, hfull, hS⟩ | ⟨hE, hz, hS⟩ | ⟨hE, hz, hh, hS⟩ <;> rw [hE] <;> rw [hS] at hw11 hinv2 hle2
      · refine R.ev rfl (E.move rfl) ?_
        refine R.call ⟨_, _, Try.func16, rfl, by kernel_rfl⟩ rfl rfl (len_any hs) ?_
        rintro _ w12 ⟨rfl, hs⟩
        refine R.ev rfl (E.move rfl) ?_
        refine R.ev rfl ((E.gtr rfl rfl).isF (by simp only [hcap] at hle2 ⊢; omega)) ?_
        refine R.ev rfl (E.move rfl) ?_
        refine R.gyes rfl rfl ?_
        refine R.ev rfl (E.move rfl) ?_
        refine R.gyes rfl rfl ?_
        refine R.ev rfl ((E.eql rfl rfl).isT (by decide)) ?_
        refine R.gyes rfl rfl ?_
        refine R.ev rfl (E.move rfl) ?_
        refine R.gyes rfl rfl ?_
        refine R.ev rfl (E.move rfl) ?_
        refine R.gyes rfl rfl ?_
        refine R.call ⟨_, _, Try.func17, rfl, by kernel_rfl⟩ rfl rfl (missed_any hs) ?_
        rintro _ w12 ⟨rfl, hs⟩
        refine R.gyes rfl rfl ?_
        refine R.ev rfl (E.notT rfl) ?_
        refine R.gyes rfl rfl ?_
        refine R.ev rfl (E.move rfl) ?_
        refine R.gyes rfl rfl ?_
        refine R.ev rfl (E.move rfl) ?_
        refine R.gyes rfl rfl ?_
        refine R.call ⟨_, _, Try.func16, rfl, by kernel_rfl⟩ rfl rfl (len_any hs) ?_
        rintro _ w12 ⟨rfl, hs⟩
        refine R.gyes rfl rfl ?_
        refine R.ev rfl (E.move rfl) ?_
        refine R.gyes rfl rfl ?_
        refine R.ev rfl ((E.neq rfl rfl).isF (by simp only; omega)) ?_
        refine R.gyes rfl rfl ?_
        refine R.ev rfl (E.pickF rfl rfl) ?_
        refine R.gyes rfl rfl ?_
        refine R.ev rfl (E.pickT rfl rfl) ?_
        refine R.ev rfl (E.pickF rfl rfl) ?_
        refine R.ev rfl (E.move rfl) ?_
        refine R.gyes rfl rfl ?_
        refine R.ev rfl (E.move rfl) ?_
        refine R.gyes rfl rfl ?_
        refine R.ev rfl ((E.eql rfl rfl).isF (by decide)) ?_
        refine R.gyes rfl rfl ?_
        refine R.ev rfl (E.move rfl) ?_
        refine R.gskip rfl rfl rfl ?_
        refine R.gskip rfl rfl rfl ?_
        refine R.gskip rfl rfl rfl ?_
        refine R.gskip rfl rfl rfl ?_
        refine R.gyes rfl rfl ?_
        refine R.ev rfl (E.pickF rfl rfl) ?_
        refine R.ev rfl (E.pickF rfl rfl) ?_
        refine R.done ?_
        refine X.keep [(1, _), (5, _), (6, _), (8, _), (9, _), (10, _), (72, _)] ⟨rfl, rfl, rfl, rfl, rfl, rfl, rfl, trivial⟩ ?_
        refine X.next ?_
        refine C.cfalse rfl ?_
        refine C.skip ?_
        refine X.next ?_
        refine C.seq ?_
        refine C.drawn (fun w1 => Sat (Kn.of w) w1 [row b9 30 (y.id.1.map ub)]) ([4, 8, 10], [0, 1, 2, 3, 5, 6, 7, 11, 12, 13, 14, 15, 16, 17, 18, 19, 22, 23]) (by kernel_rfl) ?_
        have hs := hs.drew
        have a14 : ∀ w1, Sat (Kn.of w) w1 [row b9 30 (y.id.1.map ub)] → At w1 bk_y (of_y + k * 36) (encP y) := fun w1 h1 => Sat.elAt (Hs := [row b9 30 (y.id.1.map ub)]) (b := bk_y) (off := of_y) (n := ops.length) cap h1 hy w1 h1
        refine D.evP 0 rfl (by kernel_rfl) rfl (fun _ => hs.to) (fun _ => E.move rfl) ?_
        refine D.evP 1 rfl (by kernel_rfl) rfl (fun _ => hs.to) (fun _ => E.move rfl) ?_
        refine D.evP 2 rfl (by kernel_rfl) rfl (fun _ => hs.to) (fun _ => E.indexAddr rfl rfl Try.underlying22 Try.sz33 rfl (by first | omega | decide)) ?_
        first | refine D.evP 3 rfl (by kernel_rfl) rfl (fun _ => hs.to) (fun _ => E.fieldAddr0 0 rfl Try.underlying33 rfl Try.sz3 rfl) ?_ | refine D.evP 3 rfl (by kernel_rfl) rfl (fun _ => hs.to) (fun _ => E.fieldAddrN 0 rfl Try.underlying33 rfl Try.sz3 rfl) ?_
        refine D.ev 4 rfl (by kernel_rfl) rfl hs.to (fun _ hS => E.load1 rfl Try.underlying3 rfl (a14 _ hS).cellC) ?_
        refine D.evP 5 rfl (by kernel_rfl) rfl (fun _ => hs.to) (fun _ => E.eql rfl rfl) ?_
        refine D.evP 6 rfl (by kernel_rfl) rfl (fun _ => hs.to) (fun _ => E.move rfl) ?_
        refine D.split 79 rfl (fun h79 => ?_) (fun h79 => ?_)
        · have Ay := Ay
          refine D.evPG 7 rfl (by kernel_rfl) rfl rfl rfl (fun _ => hs.to) (fun _ => E.move rfl) ?_
          refine D.evPG 11 rfl (by kernel_rfl) rfl rfl rfl (fun _ => hs.to) (fun _ => (E.buildA rfl Try.underlying30 Try.zr30 Try.sz5 rfl).as (u := .agg (encV zid).toArray) (by rfl)) ?_
          refine D.evG 8 rfl (by kernel_rfl) rfl rfl rfl hs.to (fun _ hS => E.loadRowC rfl Try.underlying30 rfl Try.sz30 (by first | exact ⟨hS.ldA, by first | rfl | assumption | exact encV_len _ | exact Enc.len _ | exact len_ub (by assumption)⟩ | exact ⟨hS.ldP rfl, by first | rfl | assumption | exact encV_len _ | exact Enc.len _ | exact len_ub (by assumption)⟩ | exact ⟨hS.ldM rfl rfl, by first | rfl | assumption | exact encV_len _ | exact Enc.len _ | exact len_ub (by assumption)⟩ | exact ⟨hS.ldM (by assumption) (by first | rfl | assumption), by first | rfl | assumption | exact encV_len _ | exact Enc.len _ | exact len_ub (by assumption)⟩ | exact ⟨by assumption, by first | rfl | assumption | exact encV_len _ | exact Enc.len _ | exact len_ub (by assumption)⟩ | exact ⟨(by assumption : ∀ w', Sat _ w' _ → At w' _ _ _) _ hS, by first | rfl | assumption | exact encV_len _ | exact Enc.len _ | exact len_ub (by assumption)⟩ | exact hS.ldp | exact At.partC (by assumption) | exact At.partC ((by assumption : ∀ w', Sat _ w' _ → At w' _ _ _) _ hS))) ?_
          refine D.evG 10 rfl (by kernel_rfl) rfl rfl rfl hs.to (fun _ hS => E.loadRowC rfl Try.underlying30 rfl Try.sz30 (by first | exact ⟨hS.ldA, by first | rfl | assumption | exact encV_len _ | exact Enc.len _ | exact len_ub (by assumption)⟩ | exact ⟨hS.ldP rfl, by first | rfl | assumption | exact encV_len _ | exact Enc.len _ | exact len_ub (by assumption)⟩ | exact ⟨hS.ldM rfl rfl, by first | rfl | assumption | exact encV_len _ | exact Enc.len _ | exact len_ub (by assumption)⟩ | exact ⟨hS.ldM (by assumption) (by first | rfl | assumption), by first | rfl | assumption | exact encV_len _ | exact Enc.len _ | exact len_ub (by assumption)⟩ | exact ⟨by assumption, by first | rfl | assumption | exact encV_len _ | exact Enc.len _ | exact len_ub (by assumption)⟩ | exact ⟨(by assumption : ∀ w', Sat _ w' _ → At w' _ _ _) _ hS, by first | rfl | assumption | exact encV_len _ | exact Enc.len _ | exact len_ub (by assumption)⟩ | exact hS.ldp | exact At.partC (by assumption) | exact At.partC ((by assumption : ∀ w', Sat _ w' _ → At w' _ _ _) _ hS))) ?_
          first | refine D.evPG 12 rfl (by kernel_rfl) rfl rfl rfl (fun _ => hs.to) (fun _ => (E.neV 10 rfl rfl Try.lv30 rfl Try.underlying30 rfl Try.gd30).isT hz) ?_ | refine D.evPG 12 rfl (by kernel_rfl) rfl rfl rfl (fun _ => hs.to) (fun _ => (E.neId 10 32 rfl rfl Try.lv30 rfl Try.underlying30 rfl Try.gd30 (by assumption) (by assumption)).isT hz) ?_
          refine D.act 9 rfl (by kernel_rfl) ?_
          refine R.gyes rfl rfl ?_
          refine R.call ⟨_, _, Try.func19, rfl, by kernel_rfl⟩ rfl rfl (remove_any y.id (hs.front (F := F11)) (by simp only; omega)) ?_
          rintro _ w14 ⟨h14, F14, hw14, hs1⟩
          have hs := hs.back (F := F11) hs1
          rw [hh] at h14
          subst h14
          refine D.back hs.to ?_
          refine D.evPG 13 rfl (by kernel_rfl) rfl rfl rfl (fun _ => hs.to) (fun _ => E.move rfl) ?_
          refine D.evPG 14 rfl (by kernel_rfl) rfl rfl rfl (fun _ => hs.to) (fun _ => E.move rfl) ?_
          refine D.evPG 15 rfl (by kernel_rfl) rfl rfl rfl (fun _ => hs.to) (fun _ => (E.neq rfl rfl).isF (by decide)) ?_
          refine D.evPG 16 rfl (by kernel_rfl) rfl rfl rfl (fun _ => hs.to) (fun _ => E.pickT rfl rfl) ?_
          refine D.evPG 17 rfl (by kernel_rfl) rfl rfl rfl (fun _ => hs.to) (fun _ => (E.neqB rfl rfl Try.underlying4).isB (c := false) rfl) ?_
          refine D.evPG 18 rfl (by kernel_rfl) rfl rfl rfl (fun _ => hs.to) (fun _ => E.move rfl) ?_
          refine D.evPG 19 rfl (by kernel_rfl) rfl rfl rfl (fun _ => hs.to) (fun _ => E.move rfl) ?_
          refine D.act 20 rfl (by kernel_rfl) ?_
          refine R.gyes rfl rfl ?_
          refine R.ev rfl (E.loadRowC rfl Try.underlying30 rfl Try.sz30 (by first | exact ⟨hs.ldA, by first | rfl | assumption | exact encV_len _ | exact Enc.len _ | exact len_ub (by assumption)⟩ | exact ⟨hs.ldP rfl, by first | rfl | assumption | exact encV_len _ | exact Enc.len _ | exact len_ub (by assumption)⟩ | exact ⟨hs.ldM rfl rfl, by first | rfl | assumption | exact encV_len _ | exact Enc.len _ | exact len_ub (by assumption)⟩ | exact ⟨hs.ldM (by assumption) (by first | rfl | assumption), by first | rfl | assumption | exact encV_len _ | exact Enc.len _ | exact len_ub (by assumption)⟩ | exact ⟨by assumption, by first | rfl | assumption | exact encV_len _ | exact Enc.len _ | exact len_ub (by assumption)⟩ | exact hs.ldp | exact At.partC (by assumption))) ?_
          refine D.backT (by kernel_rfl) ?_
          refine D.act 21 rfl (by kernel_rfl) ?_
          refine R.gyes rfl rfl ?_
          refine R.call ⟨_, _, Try.func18, rfl, by kernel_rfl⟩ rfl rfl (has_any y.id hs) ?_
          rintro _ w14 ⟨h14, hs⟩
          rw [hinv2.gone y.id] at h14
          subst h14
          refine D.backT (by kernel_rfl) ?_
          refine D.evPG 22 rfl (by kernel_rfl) rfl rfl rfl (np (by kernel_rfl)) (fun _ => E.pickF rfl rfl) ?_
          refine D.evP 23 rfl (by kernel_rfl) rfl (np (by kernel_rfl)) (fun _ => E.pickT rfl rfl) ?_
          refine D.done rfl (by kernel_rfl) ?_
          refine X.keep [(1, _), (5, _), (6, _), (8, _), (96, _)] ⟨rfl, rfl, rfl, rfl, rfl, trivial⟩ ?_
          refine X.next ?_
          refine C.cfalse rfl ?_
          refine C.skip ?_
          refine X.blockNormal ?_
          refine X.next ?_
          refine C.region ?_
          refine R.ev rfl (E.move rfl) ?_
          refine R.ev rfl (E.add rfl rfl (by omega) (by omega)) ?_
          refine R.ev rfl (E.assign rfl) ?_
          refine R.done ?_
          refine X.keep [(1, _), (5, _), (6, _), (8, _)] ⟨rfl, rfl, rfl, rfl, trivial⟩ ?_
          have hcp : ∀ s a, (remS s a).cap = s.cap := by intro s a; unfold remS; split <;> rfl
          first
            | exact X.again (k + 1, _, F14) ⟨rfl, rfl, rfl, rfl, trivial⟩ ⟨by omega, hinv2.rem y.id, by rw [hcp]; exact hcap, hw14, hs.to⟩ (by show _ - _ < _ - _; omega)
            | exact X.again (k + 1, _, F11) ⟨rfl, rfl, rfl, rfl, trivial⟩ ⟨by omega, hinv2, hcap, hw11, hs.to⟩ (by show _ - _ < _ - _; omega)
        · refine D.skipP 7 rfl (by kernel_rfl) rfl rfl rfl (fun _ => hs.to) ?_
          refine D.skipP 11 rfl (by kernel_rfl) rfl rfl rfl (fun _ => hs.to) ?_
          refine D.skip 8 rfl (by kernel_rfl) rfl rfl rfl hs.to ?_
          refine D.skip 10 rfl (by kernel_rfl) rfl rfl rfl hs.to ?_
          refine D.skipP 12 rfl (by kernel_rfl) rfl rfl rfl (fun _ => hs.to) ?_
          refine D.act 9 rfl (by kernel_rfl) ?_
          refine R.gskip rfl rfl rfl ?_
          refine D.back hs.to ?_
          refine D.skipP 13 rfl (by kernel_rfl) rfl rfl rfl (fun _ => hs.to) ?_
          refine D.undefP 14 rfl (by kernel_rfl) rfl rfl (fun _ => hs.to) ?_
          refine D.undefP 15 rfl (by kernel_rfl) rfl rfl (fun _ => hs.to) ?_
          refine D.skipP 16 rfl (by kernel_rfl) rfl rfl rfl (fun _ => hs.to) ?_
          refine D.skipP 17 rfl (by kernel_rfl) rfl rfl rfl (fun _ => hs.to) ?_
          refine D.skipP 18 rfl (by kernel_rfl) rfl rfl rfl (fun _ => hs.to) ?_
          refine D.undefP 19 rfl (by kernel_rfl) rfl rfl (fun _ => hs.to) ?_
          refine D.act 20 rfl (by kernel_rfl) ?_
          refine R.gundef rfl rfl ?_
          refine D.backT (by kernel_rfl) ?_
          refine D.act 21 rfl (by kernel_rfl) ?_
          refine R.gundef rfl rfl ?_
          refine D.backT (by kernel_rfl) ?_
          refine D.skipP 22 rfl (by kernel_rfl) rfl rfl rfl (np (by kernel_rfl)) ?_
          refine D.evP 23 rfl (by kernel_rfl) rfl (np (by kernel_rfl)) (fun _ => E.pickF rfl rfl) ?_
          refine D.done rfl (by kernel_rfl) ?_
          refine X.keep [(1, _), (5, _), (6, _), (8, _), (96, _)] ⟨rfl, rfl, rfl, rfl, rfl, trivial⟩ ?_
          refine X.next ?_
          refine C.cfalse rfl ?_
          refine C.skip ?_
          refine X.blockNormal ?_
          refine X.next ?_
          refine C.region ?_
          refine R.ev rfl (E.move rfl) ?_
          refine R.ev rfl (E.add rfl rfl (by omega) (by omega)) ?_
          refine R.ev rfl (E.assign rfl) ?_
          refine R.done ?_
          refine X.keep [(1, _), (5, _), (6, _), (8, _)] ⟨rfl, rfl, rfl, rfl, trivial⟩ ?_
          have hcp : ∀ s a, (remS s a).cap = s.cap := by intro s a; unfold remS; split <;> rfl
          first
            | exact X.again (k + 1, _, F14) ⟨rfl, rfl, rfl, rfl, trivial⟩ ⟨by omega, hinv2.rem y.id, by rw [hcp]; exact hcap, hw14, hs.to⟩ (by show _ - _ < _ - _; omega)
            | exact X.again (k + 1, _, F11) ⟨rfl, rfl, rfl, rfl, trivial⟩ ⟨by omega, hinv2, hcap, hw11, hs.to⟩ (by show _ - _ < _ - _; omega)
      · refine R.ev rfl (E.move rfl) ?_
        refine R.call ⟨_, _, Try.func16, rfl, by kernel_rfl⟩ rfl rfl (len_any hs) ?_
        rintro _ w12 ⟨rfl, hs⟩
        refine R.ev rfl (E.move rfl) ?_
        refine R.ev rfl ((E.gtr rfl rfl).isF (by simp only [hcap] at hle2 ⊢; omega)) ?_
        refine R.ev rfl (E.move rfl) ?_
        refine R.gyes rfl rfl ?_
        refine R.ev rfl (E.move rfl) ?_
        refine R.gyes rfl rfl ?_
        refine R.ev rfl ((E.eql rfl rfl).isF (by decide)) ?_
        refine R.gyes rfl rfl ?_
        refine R.ev rfl (E.move rfl) ?_
        refine R.gskip rfl rfl rfl ?_
        refine R.gskip rfl rfl rfl ?_
        refine R.gskip rfl rfl rfl ?_
        refine R.gskip rfl rfl rfl ?_
        refine R.gundef rfl rfl ?_
        refine R.gundef rfl rfl ?_
        refine R.gundef rfl rfl ?_
        refine R.gundef rfl rfl ?_
        refine R.gskip rfl rfl rfl ?_
        refine R.gyes rfl rfl ?_
        refine R.ev rfl (E.pickF rfl rfl) ?_
        refine R.ev rfl (E.pickF rfl rfl) ?_
        refine R.ev rfl (E.move rfl) ?_
        refine R.gyes rfl rfl ?_
        refine R.ev rfl (E.move rfl) ?_
        refine R.gyes rfl rfl ?_
        refine R.ev rfl ((E.eql rfl rfl).isT (by decide)) ?_
        refine R.gyes rfl rfl ?_
        refine R.ev rfl (E.move rfl) ?_
        refine R.gyes rfl rfl ?_
        refine R.ev rfl (E.move rfl) ?_
        refine R.gyes rfl rfl ?_
        refine R.ev rfl (E.loadRowC rfl Try.underlying30 rfl Try.sz30 (by first | exact ⟨hs.ldA, by first | rfl | assumption | exact encV_len _ | exact Enc.len _ | exact len_ub (by assumption)⟩ | exact ⟨hs.ldP rfl, by first | rfl | assumption | exact encV_len _ | exact Enc.len _ | exact len_ub (by assumption)⟩ | exact ⟨hs.ldM rfl rfl, by first | rfl | assumption | exact encV_len _ | exact Enc.len _ | exact len_ub (by assumption)⟩ | exact ⟨hs.ldM (by assumption) (by first | rfl | assumption), by first | rfl | assumption | exact encV_len _ | exact Enc.len _ | exact len_ub (by assumption)⟩ | exact ⟨by assumption, by first | rfl | assumption | exact encV_len _ | exact Enc.len _ | exact len_ub (by assumption)⟩ | exact hs.ldp | exact At.partC (by assumption))) ?_
        refine R.gyes rfl rfl ?_
        refine R.call ⟨_, _, Try.func18, rfl, by kernel_rfl⟩ rfl rfl (has_any y.id hs) ?_
        rintro _ w12 ⟨h12, hs⟩
        rw [has_iff.2 (by simp)] at h12
        subst h12
        refine R.gyes rfl rfl ?_
        refine R.ev rfl (E.notT rfl) ?_
        refine R.gyes rfl rfl ?_
        refine R.ev rfl (E.pickT rfl rfl) ?_
        refine R.ev rfl (E.pickF rfl rfl) ?_
        refine R.done ?_
        refine X.keep [(1, _), (5, _), (6, _), (8, _), (9, _), (10, _), (72, _)] ⟨rfl, rfl, rfl, rfl, rfl, rfl, rfl, trivial⟩ ?_
        refine X.next ?_
        refine C.cfalse rfl ?_
        refine C.skip ?_
        refine X.next ?_
        refine C.seq ?_
        refine C.drawn (fun w1 => Sat (Kn.of w) w1 [row b9 30 (y.id.1.map ub)]) ([4, 8, 10], [0, 1, 2, 3, 5, 6, 7, 11, 12, 13, 14, 15, 16, 17, 18, 19, 22, 23]) (by kernel_rfl) ?_
        have hs := hs.drew
        have a14 : ∀ w1, Sat (Kn.of w) w1 [row b9 30 (y.id.1.map ub)] → At w1 bk_y (of_y + k * 36) (encP y) := fun w1 h1 => Sat.elAt (Hs := [row b9 30 (y.id.1.map ub)]) (b := bk_y) (off := of_y) (n := ops.length) cap h1 hy w1 h1
        refine D.evP 0 rfl (by kernel_rfl) rfl (fun _ => hs.to) (fun _ => E.move rfl) ?_
        refine D.evP 1 rfl (by kernel_rfl) rfl (fun _ => hs.to) (fun _ => E.move rfl) ?_
        refine D.evP 2 rfl (by kernel_rfl) rfl (fun _ => hs.to) (fun _ => E.indexAddr rfl rfl Try.underlying22 Try.sz33 rfl (by first | omega | decide)) ?_
        first | refine D.evP 3 rfl (by kernel_rfl) rfl (fun _ => hs.to) (fun _ => E.fieldAddr0 0 rfl Try.underlying33 rfl Try.sz3 rfl) ?_ | refine D.evP 3 rfl (by kernel_rfl) rfl (fun _ => hs.to) (fun _ => E.fieldAddrN 0 rfl Try.underlying33 rfl Try.sz3 rfl) ?_
        refine D.ev 4 rfl (by kernel_rfl) rfl hs.to (fun _ hS => E.load1 rfl Try.underlying3 rfl (a14 _ hS).cellC) ?_
        refine D.evP 5 rfl (by kernel_rfl) rfl (fun _ => hs.to) (fun _ => E.eql rfl rfl) ?_
        refine D.evP 6 rfl (by kernel_rfl) rfl (fun _ => hs.to) (fun _ => E.move rfl) ?_
        refine D.split 79 rfl (fun h79 => ?_) (fun h79 => ?_)
        · have Ay := Ay
          refine D.evPG 7 rfl (by kernel_rfl) rfl rfl rfl (fun _ => hs.to) (fun _ => E.move rfl) ?_
          refine D.evPG 11 rfl (by kernel_rfl) rfl rfl rfl (fun _ => hs.to) (fun _ => (E.buildA rfl Try.underlying30 Try.zr30 Try.sz5 rfl).as (u := .agg (encV zid).toArray) (by rfl)) ?_
          refine D.evG 8 rfl (by kernel_rfl) rfl rfl rfl hs.to (fun _ hS => E.loadRowC rfl Try.underlying30 rfl Try.sz30 (by first | exact ⟨hS.ldA, by first | rfl | assumption | exact encV_len _ | exact Enc.len _ | exact len_ub (by assumption)⟩ | exact ⟨hS.ldP rfl, by first | rfl | assumption | exact encV_len _ | exact Enc.len _ | exact len_ub (by assumption)⟩ | exact ⟨hS.ldM rfl rfl, by first | rfl | assumption | exact encV_len _ | exact Enc.len _ | exact len_ub (by assumption)⟩ | exact ⟨hS.ldM (by assumption) (by first | rfl | assumption), by first | rfl | assumption | exact encV_len _ | exact Enc.len _ | exact len_ub (by assumption)⟩ | exact ⟨by assumption, by first | rfl | assumption | exact encV_len _ | exact Enc.len _ | exact len_ub (by assumption)⟩ | exact ⟨(by assumption : ∀ w', Sat _ w' _ → At w' _ _ _) _ hS, by first | rfl | assumption | exact encV_len _ | exact Enc.len _ | exact len_ub (by assumption)⟩ | exact hS.ldp | exact At.partC (by assumption) | exact At.partC ((by assumption : ∀ w', Sat _ w' _ → At w' _ _ _) _ hS))) ?_
          refine D.evG 10 rfl (by kernel_rfl) rfl rfl rfl hs.to (fun _ hS => E.loadRowC rfl Try.underlying30 rfl Try.sz30 (by first | exact ⟨hS.ldA, by first | rfl | assumption | exact encV_len _ | exact Enc.len _ | exact len_ub (by assumption)⟩ | exact ⟨hS.ldP rfl, by first | rfl | assumption | exact encV_len _ | exact Enc.len _ | exact len_ub (by assumption)⟩ | exact ⟨hS.ldM rfl rfl, by first | rfl | assumption | exact encV_len _ | exact Enc.len _ | exact len_ub (by assumption)⟩ | exact ⟨hS.ldM (by assumption) (by first | rfl | assumption), by first | rfl | assumption | exact encV_len _ | exact Enc.len _ | exact len_ub (by assumption)⟩ | exact ⟨by assumption, by first | rfl | assumption | exact encV_len _ | exact Enc.len _ | exact len_ub (by assumption)⟩ | exact ⟨(by assumption : ∀ w', Sat _ w' _ → At w' _ _ _) _ hS, by first | rfl | assumption | exact encV_len _ | exact Enc.len _ | exact len_ub (by assumption)⟩ | exact hS.ldp | exact At.partC (by assumption) | exact At.partC ((by assumption : ∀ w', Sat _ w' _ → At w' _ _ _) _ hS))) ?_
          first | refine D.evPG 12 rfl (by kernel_rfl) rfl rfl rfl (fun _ => hs.to) (fun _ => (E.neV 10 rfl rfl Try.lv30 rfl Try.underlying30 rfl Try.gd30).isT hz) ?_ | refine D.evPG 12 rfl (by kernel_rfl) rfl rfl rfl (fun _ => hs.to) (fun _ => (E.neId 10 32 rfl rfl Try.lv30 rfl Try.underlying30 rfl Try.gd30 (by assumption) (by assumption)).isT hz) ?_
          refine D.act 9 rfl (by kernel_rfl) ?_
          refine R.gyes rfl rfl ?_
          refine R.call ⟨_, _, Try.func19, rfl, by kernel_rfl⟩ rfl rfl (remove_any y.id (hs.front (F := F11)) (by simp only [List.length_append, List.length_cons, List.length_nil]; omega)) ?_
          rintro _ w14 ⟨h14, F14, hw14, hs1⟩
          have hs := hs.back (F := F11) hs1
          rw [has_iff.2 (by simp)] at h14
          subst h14
          refine D.back hs.to ?_
          refine D.evPG 13 rfl (by kernel_rfl) rfl rfl rfl (fun _ => hs.to) (fun _ => E.move rfl) ?_
          refine D.evPG 14 rfl (by kernel_rfl) rfl rfl rfl (fun _ => hs.to) (fun _ => E.move rfl) ?_
          refine D.evPG 15 rfl (by kernel_rfl) rfl rfl rfl (fun _ => hs.to) (fun _ => (E.neq rfl rfl).isT (by decide)) ?_
          refine D.evPG 16 rfl (by kernel_rfl) rfl rfl rfl (fun _ => hs.to) (fun _ => E.pickT rfl rfl) ?_
          refine D.evPG 17 rfl (by kernel_rfl) rfl rfl rfl (fun _ => hs.to) (fun _ => (E.neqB rfl rfl Try.underlying4).isB (c := false) rfl) ?_
          refine D.evPG 18 rfl (by kernel_rfl) rfl rfl rfl (fun _ => hs.to) (fun _ => E.move rfl) ?_
          refine D.evPG 19 rfl (by kernel_rfl) rfl rfl rfl (fun _ => hs.to) (fun _ => E.move rfl) ?_
          refine D.act 20 rfl (by kernel_rfl) ?_
          refine R.gyes rfl rfl ?_
          refine R.ev rfl (E.loadRowC rfl Try.underlying30 rfl Try.sz30 (by first | exact ⟨hs.ldA, by first | rfl | assumption | exact encV_len _ | exact Enc.len _ | exact len_ub (by assumption)⟩ | exact ⟨hs.ldP rfl, by first | rfl | assumption | exact encV_len _ | exact Enc.len _ | exact len_ub (by assumption)⟩ | exact ⟨hs.ldM rfl rfl, by first | rfl | assumption | exact encV_len _ | exact Enc.len _ | exact len_ub (by assumption)⟩ | exact ⟨hs.ldM (by assumption) (by first | rfl | assumption), by first | rfl | assumption | exact encV_len _ | exact Enc.len _ | exact len_ub (by assumption)⟩ | exact ⟨by assumption, by first | rfl | assumption | exact encV_len _ | exact Enc.len _ | exact len_ub (by assumption)⟩ | exact hs.ldp | exact At.partC (by assumption))) ?_
          refine D.backT (by kernel_rfl) ?_
          refine D.act 21 rfl (by kernel_rfl) ?_
          refine R.gyes rfl rfl ?_
          refine R.call ⟨_, _, Try.func18, rfl, by kernel_rfl⟩ rfl rfl (has_any y.id hs) ?_
          rintro _ w14 ⟨h14, hs⟩
          rw [hinv2.gone y.id] at h14
          subst h14
          refine D.backT (by kernel_rfl) ?_
          refine D.evPG 22 rfl (by kernel_rfl) rfl rfl rfl (np (by kernel_rfl)) (fun _ => E.pickF rfl rfl) ?_
          refine D.evP 23 rfl (by kernel_rfl) rfl (np (by kernel_rfl)) (fun _ => E.pickT rfl rfl) ?_
          refine D.done rfl (by kernel_rfl) ?_
          refine X.keep [(1, _), (5, _), (6, _), (8, _), (96, _)] ⟨rfl, rfl, rfl, rfl, rfl, trivial⟩ ?_
          refine X.next ?_
          refine C.cfalse rfl ?_
          refine C.skip ?_
          refine X.blockNormal ?_
          refine X.next ?_
          refine C.region ?_
          refine R.ev rfl (E.move rfl) ?_
          refine R.ev rfl (E.add rfl rfl (by omega) (by omega)) ?_
          refine R.ev rfl (E.assign rfl) ?_
          refine R.done ?_
          refine X.keep [(1, _), (5, _), (6, _), (8, _)] ⟨rfl, rfl, rfl, rfl, trivial⟩ ?_
          have hcp : ∀ s a, (remS s a).cap = s.cap := by intro s a; unfold remS; split <;> rfl
          first
            | exact X.again (k + 1, _, F14) ⟨rfl, rfl, rfl, rfl, trivial⟩ ⟨by omega, hinv2.rem y.id, by rw [hcp]; exact hcap, hw14, hs.to⟩ (by show _ - _ < _ - _; omega)
            | exact X.again (k + 1, _, F11) ⟨rfl, rfl, rfl, rfl, trivial⟩ ⟨by omega, hinv2, hcap, hw11, hs.to⟩ (by show _ - _ < _ - _; omega)
        · refine D.skipP 7 rfl (by kernel_rfl) rfl rfl rfl (fun _ => hs.to) ?_
          refine D.skipP 11 rfl (by kernel_rfl) rfl rfl rfl (fun _ => hs.to) ?_
          refine D.skip 8 rfl (by kernel_rfl) rfl rfl rfl hs.to ?_
          refine D.skip 10 rfl (by kernel_rfl) rfl rfl rfl hs.to ?_
          refine D.skipP 12 rfl (by kernel_rfl) rfl rfl rfl (fun _ => hs.to) ?_
          refine D.act 9 rfl (by kernel_rfl) ?_
          refine R.gskip rfl rfl rfl ?_
          refine D.back hs.to ?_
          refine D.skipP 13 rfl (by kernel_rfl) rfl rfl rfl (fun _ => hs.to) ?_
          refine D.undefP 14 rfl (by kernel_rfl) rfl rfl (fun _ => hs.to) ?_
          refine D.undefP 15 rfl (by kernel_rfl) rfl rfl (fun _ => hs.to) ?_
          refine D.skipP 16 rfl (by kernel_rfl) rfl rfl rfl (fun _ => hs.to) ?_
          refine D.skipP 17 rfl (by kernel_rfl) rfl rfl rfl (fun _ => hs.to) ?_
          refine D.skipP 18 rfl (by kernel_rfl) rfl rfl rfl (fun _ => hs.to) ?_
          refine D.undefP 19 rfl (by kernel_rfl) rfl rfl (fun _ => hs.to) ?_
          refine D.act 20 rfl (by kernel_rfl) ?_
          refine R.gundef rfl rfl ?_
          refine D.backT (by kernel_rfl) ?_
          refine D.act 21 rfl (by kernel_rfl) ?_
          refine R.gundef rfl rfl ?_
          refine D.backT (by kernel_rfl) ?_
          refine D.skipP 22 rfl (by kernel_rfl) rfl rfl rfl (np (by kernel_rfl)) ?_
          refine D.evP 23 rfl (by kernel_rfl) rfl (np (by kernel_rfl)) (fun _ => E.pickF rfl rfl) ?_
          refine D.done rfl (by kernel_rfl) ?_
          refine X.keep [(1, _), (5, _), (6, _), (8, _), (96, _)] ⟨rfl, rfl, rfl, rfl, rfl, trivial⟩ ?_
          refine X.next ?_
          refine C.cfalse rfl ?_
          refine C.skip ?_
          refine X.blockNormal ?_
          refine X.next ?_
          refine C.region ?_
          refine R.ev rfl (E.move rfl) ?_
          refine R.ev rfl (E.add rfl rfl (by omega) (by omega)) ?_
          refine R.ev rfl (E.assign rfl) ?_
          refine R.done ?_
          refine X.keep [(1, _), (5, _), (6, _), (8, _)] ⟨rfl, rfl, rfl, rfl, trivial⟩ ?_
          have hcp : ∀ s a, (remS s a).cap = s.cap := by intro s a; unfold remS; split <;> rfl
          first
            | exact X.again (k + 1, _, F14) ⟨rfl, rfl, rfl, rfl, trivial⟩ ⟨by omega, hinv2.rem y.id, by rw [hcp]; exact hcap, hw14, hs.to⟩ (by show _ - _ < _ - _; omega)
            | exact X.again (k + 1, _, F11) ⟨rfl, rfl, rfl, rfl, trivial⟩ ⟨by omega, hinv2, hcap, hw11, hs.to⟩ (by show _ - _ < _ - _; omega)
      · refine R.ev rfl (E.move rfl) ?_
        refine R.call ⟨_, _, Try.func16, rfl, by kernel_rfl⟩ rfl rfl (len_any hs) ?_
        rintro _ w12 ⟨rfl, hs⟩
        refine R.ev rfl (E.move rfl) ?_
        refine R.ev rfl ((E.gtr rfl rfl).isF (by simp only [hcap] at hle2 ⊢; omega)) ?_
        refine R.ev rfl (E.move rfl) ?_
        refine R.gyes rfl rfl ?_
        refine R.ev rfl (E.move rfl) ?_
        refine R.gyes rfl rfl ?_
        refine R.ev rfl ((E.eql rfl rfl).isF (by decide)) ?_
        refine R.gyes rfl rfl ?_
        refine R.ev rfl (E.move rfl) ?_
        refine R.gskip rfl rfl rfl ?_
        refine R.gskip rfl rfl rfl ?_
        refine R.gskip rfl rfl rfl ?_
        refine R.gskip rfl rfl rfl ?_
        refine R.gundef rfl rfl ?_
        refine R.gundef rfl rfl ?_
        refine R.gundef rfl rfl ?_
        refine R.gundef rfl rfl ?_
        refine R.gskip rfl rfl rfl ?_
        refine R.gyes rfl rfl ?_
        refine R.ev rfl (E.pickF rfl rfl) ?_
        refine R.ev rfl (E.pickF rfl rfl) ?_
        refine R.ev rfl (E.move rfl) ?_
        refine R.gyes rfl rfl ?_
        refine R.ev rfl (E.move rfl) ?_
        refine R.gyes rfl rfl ?_
        refine R.ev rfl ((E.eql rfl rfl).isF (by decide)) ?_
        refine R.gyes rfl rfl ?_
        refine R.ev rfl (E.move rfl) ?_
        refine R.gskip rfl rfl rfl ?_
        refine R.gskip rfl rfl rfl ?_
        refine R.gskip rfl rfl rfl ?_
        refine R.gskip rfl rfl rfl ?_
        refine R.gyes rfl rfl ?_
        refine R.ev rfl (E.pickF rfl rfl) ?_
        refine R.ev rfl (E.pickF rfl rfl) ?_
        refine R.done ?_
        refine X.keep [(1, _), (5, _), (6, _), (8, _), (9, _), (10, _), (72, _)] ⟨rfl, rfl, rfl, rfl, rfl, rfl, rfl, trivial⟩ ?_
        refine X.next ?_
        refine C.cfalse rfl ?_
        refine C.skip ?_
        refine X.next ?_
        refine C.seq ?_
        refine C.drawn (fun w1 => Sat (Kn.of w) w1 [row b9 30 (y.id.1.map ub)]) ([4, 8, 10], [0, 1, 2, 3, 5, 6, 7, 11, 12, 13, 14, 15, 16, 17, 18, 19, 22, 23]) (by kernel_rfl) ?_
        have hs := hs.drew
        have a14 : ∀ w1, Sat (Kn.of w) w1 [row b9 30 (y.id.1.map ub)] → At w1 bk_y (of_y + k * 36) (encP y) := fun w1 h1 => Sat.elAt (Hs := [row b9 30 (y.id.1.map ub)]) (b := bk_y) (off := of_y) (n := ops.length) cap h1 hy w1 h1
        refine D.evP 0 rfl (by kernel_rfl) rfl (fun _ => hs.to) (fun _ => E.move rfl) ?_
        refine D.evP 1 rfl (by kernel_rfl) rfl (fun _ => hs.to) (fun _ => E.move rfl) ?_
        refine D.evP 2 rfl (by kernel_rfl) rfl (fun _ => hs.to) (fun _ => E.indexAddr rfl rfl Try.underlying22 Try.sz33 rfl (by first | omega | decide)) ?_
        first | refine D.evP 3 rfl (by kernel_rfl) rfl (fun _ => hs.to) (fun _ => E.fieldAddr0 0 rfl Try.underlying33 rfl Try.sz3 rfl) ?_ | refine D.evP 3 rfl (by kernel_rfl) rfl (fun _ => hs.to) (fun _ => E.fieldAddrN 0 rfl Try.underlying33 rfl Try.sz3 rfl) ?_
        refine D.ev 4 rfl (by kernel_rfl) rfl hs.to (fun _ hS => E.load1 rfl Try.underlying3 rfl (a14 _ hS).cellC) ?_
        refine D.evP 5 rfl (by kernel_rfl) rfl (fun _ => hs.to) (fun _ => E.eql rfl rfl) ?_
        refine D.evP 6 rfl (by kernel_rfl) rfl (fun _ => hs.to) (fun _ => E.move rfl) ?_
        refine D.split 79 rfl (fun h79 => ?_) (fun h79 => ?_)
        · have Ay := Ay
          refine D.evPG 7 rfl (by kernel_rfl) rfl rfl rfl (fun _ => hs.to) (fun _ => E.move rfl) ?_
          refine D.evPG 11 rfl (by kernel_rfl) rfl rfl rfl (fun _ => hs.to) (fun _ => (E.buildA rfl Try.underlying30 Try.zr30 Try.sz5 rfl).as (u := .agg (encV zid).toArray) (by rfl)) ?_
          refine D.evG 8 rfl (by kernel_rfl) rfl rfl rfl hs.to (fun _ hS => E.loadRowC rfl Try.underlying30 rfl Try.sz30 (by first | exact ⟨hS.ldA, by first | rfl | assumption | exact encV_len _ | exact Enc.len _ | exact len_ub (by assumption)⟩ | exact ⟨hS.ldP rfl, by first | rfl | assumption | exact encV_len _ | exact Enc.len _ | exact len_ub (by assumption)⟩ | exact ⟨hS.ldM rfl rfl, by first | rfl | assumption | exact encV_len _ | exact Enc.len _ | exact len_ub (by assumption)⟩ | exact ⟨hS.ldM (by assumption) (by first | rfl | assumption), by first | rfl | assumption | exact encV_len _ | exact Enc.len _ | exact len_ub (by assumption)⟩ | exact ⟨by assumption, by first | rfl | assumption | exact encV_len _ | exact Enc.len _ | exact len_ub (by assumption)⟩ | exact ⟨(by assumption : ∀ w', Sat _ w' _ → At w' _ _ _) _ hS, by first | rfl | assumption | exact encV_len _ | exact Enc.len _ | exact len_ub (by assumption)⟩ | exact hS.ldp | exact At.partC (by assumption) | exact At.partC ((by assumption : ∀ w', Sat _ w' _ → At w' _ _ _) _ hS))) ?_
          refine D.evG 10 rfl (by kernel_rfl) rfl rfl rfl hs.to (fun _ hS => E.loadRowC rfl Try.underlying30 rfl Try.sz30 (by first | exact ⟨hS.ldA, by first | rfl | assumption | exact encV_len _ | exact Enc.len _ | exact len_ub (by assumption)⟩ | exact ⟨hS.ldP rfl, by first | rfl | assumption | exact encV_len _ | exact Enc.len _ | exact len_ub (by assumption)⟩ | exact ⟨hS.ldM rfl rfl, by first | rfl | assumption | exact encV_len _ | exact Enc.len _ | exact len_ub (by assumption)⟩ | exact ⟨hS.ldM (by assumption) (by first | rfl | assumption), by first | rfl | assumption | exact encV_len _ | exact Enc.len _ | exact len_ub (by assumption)⟩ | exact ⟨by assumption, by first | rfl | assumption | exact encV_len _ | exact Enc.len _ | exact len_ub (by assumption)⟩ | exact ⟨(by assumption : ∀ w', Sat _ w' _ → At w' _ _ _) _ hS, by first | rfl | assumption | exact encV_len _ | exact Enc.len _ | exact len_ub (by assumption)⟩ | exact hS.ldp | exact At.partC (by assumption) | exact At.partC ((by assumption : ∀ w', Sat _ w' _ → At w' _ _ _) _ hS))) ?_
          first | refine D.evPG 12 rfl (by kernel_rfl) rfl rfl rfl (fun _ => hs.to) (fun _ => (E.neV 10 rfl rfl Try.lv30 rfl Try.underlying30 rfl Try.gd30).isF (fun h => h hz)) ?_ | refine D.evPG 12 rfl (by kernel_rfl) rfl rfl rfl (fun _ => hs.to) (fun _ => (E.neId 10 32 rfl rfl Try.lv30 rfl Try.underlying30 rfl Try.gd30 (by assumption) (by assumption)).isF (fun h => h hz)) ?_
          refine D.act 9 rfl (by kernel_rfl) ?_
          refine R.gyes rfl rfl ?_
          refine R.call ⟨_, _, Try.func19, rfl, by kernel_rfl⟩ rfl rfl (remove_any y.id (hs.front (F := F11)) (by omega)) ?_
          rintro _ w14 ⟨h14, F14, hw14, hs1⟩
          have hs := hs.back (F := F11) hs1
          rw [has_false.2 (by rw [hz]; exact hinv.nz)] at h14
          subst h14
          refine D.back hs.to ?_
          refine D.evPG 13 rfl (by kernel_rfl) rfl rfl rfl (fun _ => hs.to) (fun _ => E.move rfl) ?_
          refine D.skipP 14 rfl (by kernel_rfl) rfl rfl rfl (fun _ => hs.to) ?_
          refine D.skipP 15 rfl (by kernel_rfl) rfl rfl rfl (fun _ => hs.to) ?_
          refine D.evPG 16 rfl (by kernel_rfl) rfl rfl rfl (fun _ => hs.to) (fun _ => E.pickF rfl rfl) ?_
          refine D.evPG 17 rfl (by kernel_rfl) rfl rfl rfl (fun _ => hs.to) (fun _ => (E.neqB rfl rfl Try.underlying4).isB (c := false) rfl) ?_
          refine D.evPG 18 rfl (by kernel_rfl) rfl rfl rfl (fun _ => hs.to) (fun _ => E.move rfl) ?_
          refine D.evPG 19 rfl (by kernel_rfl) rfl rfl rfl (fun _ => hs.to) (fun _ => E.move rfl) ?_
          refine D.act 20 rfl (by kernel_rfl) ?_
          refine R.gyes rfl rfl ?_
          refine R.ev rfl (E.loadRowC rfl Try.underlying30 rfl Try.sz30 (by first | exact ⟨hs.ldA, by first | rfl | assumption | exact encV_len _ | exact Enc.len _ | exact len_ub (by assumption)⟩ | exact ⟨hs.ldP rfl, by first | rfl | assumption | exact encV_len _ | exact Enc.len _ | exact len_ub (by assumption)⟩ | exact ⟨hs.ldM rfl rfl, by first | rfl | assumption | exact encV_len _ | exact Enc.len _ | exact len_ub (by assumption)⟩ | exact ⟨hs.ldM (by assumption) (by first | rfl | assumption), by first | rfl | assumption | exact encV_len _ | exact Enc.len _ | exact len_ub (by assumption)⟩ | exact ⟨by assumption, by first | rfl | assumption | exact encV_len _ | exact Enc.len _ | exact len_ub (by assumption)⟩ | exact hs.ldp | exact At.partC (by assumption))) ?_
          refine D.backT (by kernel_rfl) ?_
          refine D.act 21 rfl (by kernel_rfl) ?_
          refine R.gyes rfl rfl ?_
          refine R.call ⟨_, _, Try.func18, rfl, by kernel_rfl⟩ rfl rfl (has_any y.id hs) ?_
          rintro _ w14 ⟨h14, hs⟩
          rw [hinv2.gone y.id] at h14
          subst h14
          refine D.backT (by kernel_rfl) ?_
          refine D.evPG 22 rfl (by kernel_rfl) rfl rfl rfl (np (by kernel_rfl)) (fun _ => E.pickF rfl rfl) ?_
          refine D.evP 23 rfl (by kernel_rfl) rfl (np (by kernel_rfl)) (fun _ => E.pickT rfl rfl) ?_
          refine D.done rfl (by kernel_rfl) ?_
          refine X.keep [(1, _), (5, _), (6, _), (8, _), (96, _)] ⟨rfl, rfl, rfl, rfl, rfl, trivial⟩ ?_
          refine X.next ?_
          refine C.cfalse rfl ?_
          refine C.skip ?_
          refine X.blockNormal ?_
          refine X.next ?_
          refine C.region ?_
          refine R.ev rfl (E.move rfl) ?_
          refine R.ev rfl (E.add rfl rfl (by omega) (by omega)) ?_
          refine R.ev rfl (E.assign rfl) ?_
          refine R.done ?_
          refine X.keep [(1, _), (5, _), (6, _), (8, _)] ⟨rfl, rfl, rfl, rfl, trivial⟩ ?_
          have hcp : ∀ s a, (remS s a).cap = s.cap := by intro s a; unfold remS; split <;> rfl
          first
            | exact X.again (k + 1, _, F14) ⟨rfl, rfl, rfl, rfl, trivial⟩ ⟨by omega, hinv2.rem y.id, by rw [hcp]; exact hcap, hw14, hs.to⟩ (by show _ - _ < _ - _; omega)
            | exact X.again (k + 1, _, F11) ⟨rfl, rfl, rfl, rfl, trivial⟩ ⟨by omega, hinv2, hcap, hw11, hs.to⟩ (by show _ - _ < _ - _; omega)
        · refine D.skipP 7 rfl (by kernel_rfl) rfl rfl rfl (fun _ => hs.to) ?_
          refine D.skipP 11 rfl (by kernel_rfl) rfl rfl rfl (fun _ => hs.to) ?_
          refine D.skip 8 rfl (by kernel_rfl) rfl rfl rfl hs.to ?_
          refine D.skip 10 rfl (by kernel_rfl) rfl rfl rfl hs.to ?_
          refine D.skipP 12 rfl (by kernel_rfl) rfl rfl rfl (fun _ => hs.to) ?_
          refine D.act 9 rfl (by kernel_rfl) ?_
          refine R.gskip rfl rfl rfl ?_
          refine D.back hs.to ?_
          refine D.skipP 13 rfl (by kernel_rfl) rfl rfl rfl (fun _ => hs.to) ?_
          refine D.undefP 14 rfl (by kernel_rfl) rfl rfl (fun _ => hs.to) ?_
          refine D.undefP 15 rfl (by kernel_rfl) rfl rfl (fun _ => hs.to) ?_
          refine D.skipP 16 rfl (by kernel_rfl) rfl rfl rfl (fun _ => hs.to) ?_
          refine D.skipP 17 rfl (by kernel_rfl) rfl rfl rfl (fun _ => hs.to) ?_
          refine D.skipP 18 rfl (by kernel_rfl) rfl rfl rfl (fun _ => hs.to) ?_
          refine D.undefP 19 rfl (by kernel_rfl) rfl rfl (fun _ => hs.to) ?_
          refine D.act 20 rfl (by kernel_rfl) ?_
          refine R.gundef rfl rfl ?_
          refine D.backT (by kernel_rfl) ?_
          refine D.act 21 rfl (by kernel_rfl) ?_
          refine R.gundef rfl rfl ?_
          refine D.backT (by kernel_rfl) ?_
          refine D.skipP 22 rfl (by kernel_rfl) rfl rfl rfl (np (by kernel_rfl)) ?_
          refine D.evP 23 rfl (by kernel_rfl) rfl (np (by kernel_rfl)) (fun _ => E.pickF rfl rfl) ?_
          refine D.done rfl (by kernel_rfl) ?_
          refine X.keep [(1, _), (5, _), (6, _), (8, _), (96, _)] ⟨rfl, rfl, rfl, rfl, rfl, trivial⟩ ?_
          refine X.next ?_
          refine C.cfalse rfl ?_
          refine C.skip ?_
          refine X.blockNormal ?_
          refine X.next ?_
          refine C.region ?_
          refine R.ev rfl (E.move rfl) ?_
          refine R.ev rfl (E.add rfl rfl (by omega) (by omega)) ?_
          refine R.ev rfl (E.assign rfl) ?_
          refine R.done ?_
          refine X.keep [(1, _), (5, _), (6, _), (8, _)] ⟨rfl, rfl, rfl, rfl, trivial⟩ ?_
          have hcp : ∀ s a, (remS s a).cap = s.cap := by intro s a; unfold remS; split <;> rfl
          first
            | exact X.again (k + 1, _, F14) ⟨rfl, rfl, rfl, rfl, trivial⟩ ⟨by omega, hinv2.rem y.id, by rw [hcp]; exact hcap, hw14, hs.to⟩ (by show _ - _ < _ - _; omega)
            | exact X.again (k + 1, _, F11) ⟨rfl, rfl, rfl, rfl, trivial⟩ ⟨by omega, hinv2, hcap, hw11, hs.to⟩ (by show _ - _ < _ - _; omega)
      · refine R.ev rfl (E.move rfl) ?_
        refine R.call ⟨_, _, Try.func16, rfl, by kernel_rfl⟩ rfl rfl (len_any hs) ?_
        rintro _ w12 ⟨rfl, hs⟩
        refine R.ev rfl (E.move rfl) ?_
        refine R.ev rfl ((E.gtr rfl rfl).isF (by simp only [hcap] at hle2 ⊢; omega)) ?_
        refine R.ev rfl (E.move rfl) ?_
        refine R.gyes rfl rfl ?_
        refine R.ev rfl (E.move rfl) ?_
        refine R.gyes rfl rfl ?_
        refine R.ev rfl ((E.eql rfl rfl).isF (by decide)) ?_
        refine R.gyes rfl rfl ?_
        refine R.ev rfl (E.move rfl) ?_
        refine R.gskip rfl rfl rfl ?_
        refine R.gskip rfl rfl rfl ?_
        refine R.gskip rfl rfl rfl ?_
        refine R.gskip rfl rfl rfl ?_
        refine R.gundef rfl rfl ?_
        refine R.gundef rfl rfl ?_
        refine R.gundef rfl rfl ?_
        refine R.gundef rfl rfl ?_
        refine R.gskip rfl rfl rfl ?_
        refine R.gyes rfl rfl ?_
        refine R.ev rfl (E.pickF rfl rfl) ?_
        refine R.ev rfl (E.pickF rfl rfl) ?_
        refine R.ev rfl (E.move rfl) ?_
        refine R.gyes rfl rfl ?_
        refine R.ev rfl (E.move rfl) ?_
        refine R.gyes rfl rfl ?_
        refine R.ev rfl ((E.eql rfl rfl).isF (by decide)) ?_
        refine R.gyes rfl rfl ?_
        refine R.ev rfl (E.move rfl) ?_
        refine R.gskip rfl rfl rfl ?_
        refine R.gskip rfl rfl rfl ?_
        refine R.gskip rfl rfl rfl ?_
        refine R.gskip rfl rfl rfl ?_
        refine R.gyes rfl rfl ?_
        refine R.ev rfl (E.pickF rfl rfl) ?_
        refine R.ev rfl (E.pickF rfl rfl) ?_
        refine R.done ?_
        refine X.keep [(1, _), (5, _), (6, _), (8, _), (9, _), (10, _), (72, _)] ⟨rfl, rfl, rfl, rfl, rfl, rfl, rfl, trivial⟩ ?_
        refine X.next ?_
        refine C.cfalse rfl ?_
        refine C.skip ?_
        refine X.next ?_
        refine C.seq ?_
        refine C.drawn (fun w1 => Sat (Kn.of w) w1 [row b9 30 (y.id.1.map ub)]) ([4, 8, 10], [0, 1, 2, 3, 5, 6, 7, 11, 12, 13, 14, 15, 16, 17, 18, 19, 22, 23]) (by kernel_rfl) ?_
        have hs := hs.drew
        have a14 : ∀ w1, Sat (Kn.of w) w1 [row b9 30 (y.id.1.map ub)] → At w1 bk_y (of_y + k * 36) (encP y) := fun w1 h1 => Sat.elAt (Hs := [row b9 30 (y.id.1.map ub)]) (b := bk_y) (off := of_y) (n := ops.length) cap h1 hy w1 h1
        refine D.evP 0 rfl (by kernel_rfl) rfl (fun _ => hs.to) (fun _ => E.move rfl) ?_
        refine D.evP 1 rfl (by kernel_rfl) rfl (fun _ => hs.to) (fun _ => E.move rfl) ?_
        refine D.evP 2 rfl (by kernel_rfl) rfl (fun _ => hs.to) (fun _ => E.indexAddr rfl rfl Try.underlying22 Try.sz33 rfl (by first | omega | decide)) ?_
        first | refine D.evP 3 rfl (by kernel_rfl) rfl (fun _ => hs.to) (fun _ => E.fieldAddr0 0 rfl Try.underlying33 rfl Try.sz3 rfl) ?_ | refine D.evP 3 rfl (by kernel_rfl) rfl (fun _ => hs.to) (fun _ => E.fieldAddrN 0 rfl Try.underlying33 rfl Try.sz3 rfl) ?_
        refine D.ev 4 rfl (by kernel_rfl) rfl hs.to (fun _ hS => E.load1 rfl Try.underlying3 rfl (a14 _ hS).cellC) ?_
        refine D.evP 5 rfl (by kernel_rfl) rfl (fun _ => hs.to) (fun _ => E.eql rfl rfl) ?_
        refine D.evP 6 rfl (by kernel_rfl) rfl (fun _ => hs.to) (fun _ => E.move rfl) ?_
        refine D.split 79 rfl (fun h79 => ?_) (fun h79 => ?_)
        · have Ay := Ay
          refine D.evPG 7 rfl (by kernel_rfl) rfl rfl rfl (fun _ => hs.to) (fun _ => E.move rfl) ?_
          refine D.evPG 11 rfl (by kernel_rfl) rfl rfl rfl (fun _ => hs.to) (fun _ => (E.buildA rfl Try.underlying30 Try.zr30 Try.sz5 rfl).as (u := .agg (encV zid).toArray) (by rfl)) ?_
          refine D.evG 8 rfl (by kernel_rfl) rfl rfl rfl hs.to (fun _ hS => E.loadRowC rfl Try.underlying30 rfl Try.sz30 (by first | exact ⟨hS.ldA, by first | rfl | assumption | exact encV_len _ | exact Enc.len _ | exact len_ub (by assumption)⟩ | exact ⟨hS.ldP rfl, by first | rfl | assumption | exact encV_len _ | exact Enc.len _ | exact len_ub (by assumption)⟩ | exact ⟨hS.ldM rfl rfl, by first | rfl | assumption | exact encV_len _ | exact Enc.len _ | exact len_ub (by assumption)⟩ | exact ⟨hS.ldM (by assumption) (by first | rfl | assumption), by first | rfl | assumption | exact encV_len _ | exact Enc.len _ | exact len_ub (by assumption)⟩ | exact ⟨by assumption, by first | rfl | assumption | exact encV_len _ | exact Enc.len _ | exact len_ub (by assumption)⟩ | exact ⟨(by assumption : ∀ w', Sat _ w' _ → At w' _ _ _) _ hS, by first | rfl | assumption | exact encV_len _ | exact Enc.len _ | exact len_ub (by assumption)⟩ | exact hS.ldp | exact At.partC (by assumption) | exact At.partC ((by assumption : ∀ w', Sat _ w' _ → At w' _ _ _) _ hS))) ?_
          refine D.evG 10 rfl (by kernel_rfl) rfl rfl rfl hs.to (fun _ hS => E.loadRowC rfl Try.underlying30 rfl Try.sz30 (by first | exact ⟨hS.ldA, by first | rfl | assumption | exact encV_len _ | exact Enc.len _ | exact len_ub (by assumption)⟩ | exact ⟨hS.ldP rfl, by first | rfl | assumption | exact encV_len _ | exact Enc.len _ | exact len_ub (by assumption)⟩ | exact ⟨hS.ldM rfl rfl, by first | rfl | assumption | exact encV_len _ | exact Enc.len _ | exact len_ub (by assumption)⟩ | exact ⟨hS.ldM (by assumption) (by first | rfl | assumption), by first | rfl | assumption | exact encV_len _ | exact Enc.len _ | exact len_ub (by assumption)⟩ | exact ⟨by assumption, by first | rfl | assumption | exact encV_len _ | exact Enc.len _ | exact len_ub (by assumption)⟩ | exact ⟨(by assumption : ∀ w', Sat _ w' _ → At w' _ _ _) _ hS, by first | rfl | assumption | exact encV_len _ | exact Enc.len _ | exact len_ub (by assumption)⟩ | exact hS.ldp | exact At.partC (by assumption) | exact At.partC ((by assumption : ∀ w', Sat _ w' _ → At w' _ _ _) _ hS))) ?_
          first | refine D.evPG 12 rfl (by kernel_rfl) rfl rfl rfl (fun _ => hs.to) (fun _ => (E.neV 10 rfl rfl Try.lv30 rfl Try.underlying30 rfl Try.gd30).isT hz) ?_ | refine D.evPG 12 rfl (by kernel_rfl) rfl rfl rfl (fun _ => hs.to) (fun _ => (E.neId 10 32 rfl rfl Try.lv30 rfl Try.underlying30 rfl Try.gd30 (by assumption) (by assumption)).isT hz) ?_
          refine D.act 9 rfl (by kernel_rfl) ?_
          refine R.gyes rfl rfl ?_
          refine R.call ⟨_, _, Try.func19, rfl, by kernel_rfl⟩ rfl rfl (remove_any y.id (hs.front (F := F11)) (by omega)) ?_
          rintro _ w14 ⟨h14, F14, hw14, hs1⟩
          have hs := hs.back (F := F11) hs1
          rw [hh] at h14
          subst h14
          refine D.back hs.to ?_
          refine D.evPG 13 rfl (by kernel_rfl) rfl rfl rfl (fun _ => hs.to) (fun _ => E.move rfl) ?_
          refine D.evPG 14 rfl (by kernel_rfl) rfl rfl rfl (fun _ => hs.to) (fun _ => E.move rfl) ?_
          refine D.evPG 15 rfl (by kernel_rfl) rfl rfl rfl (fun _ => hs.to) (fun _ => (E.neq rfl rfl).isT (by decide)) ?_
          refine D.evPG 16 rfl (by kernel_rfl) rfl rfl rfl (fun _ => hs.to) (fun _ => E.pickT rfl rfl) ?_
          refine D.evPG 17 rfl (by kernel_rfl) rfl rfl rfl (fun _ => hs.to) (fun _ => (E.neqB rfl rfl Try.underlying4).isB (c := false) rfl) ?_
          refine D.evPG 18 rfl (by kernel_rfl) rfl rfl rfl (fun _ => hs.to) (fun _ => E.move rfl) ?_
          refine D.evPG 19 rfl (by kernel_rfl) rfl rfl rfl (fun _ => hs.to) (fun _ => E.move rfl) ?_
          refine D.act 20 rfl (by kernel_rfl) ?_
          refine R.gyes rfl rfl ?_
          refine R.ev rfl (E.loadRowC rfl Try.underlying30 rfl Try.sz30 (by first | exact ⟨hs.ldA, by first | rfl | assumption | exact encV_len _ | exact Enc.len _ | exact len_ub (by assumption)⟩ | exact ⟨hs.ldP rfl, by first | rfl | assumption | exact encV_len _ | exact Enc.len _ | exact len_ub (by assumption)⟩ | exact ⟨hs.ldM rfl rfl, by first | rfl | assumption | exact encV_len _ | exact Enc.len _ | exact len_ub (by assumption)⟩ | exact ⟨hs.ldM (by assumption) (by first | rfl | assumption), by first | rfl | assumption | exact encV_len _ | exact Enc.len _ | exact len_ub (by assumption)⟩ | exact ⟨by assumption, by first | rfl | assumption | exact encV_len _ | exact Enc.len _ | exact len_ub (by assumption)⟩ | exact hs.ldp | exact At.partC (by assumption))) ?_
          refine D.backT (by kernel_rfl) ?_
          refine D.act 21 rfl (by kernel_rfl) ?_
          refine R.gyes rfl rfl ?_
          refine R.call ⟨_, _, Try.func18, rfl, by kernel_rfl⟩ rfl rfl (has_any y.id hs) ?_
          rintro _ w14 ⟨h14, hs⟩
          rw [hinv2.gone y.id] at h14
          subst h14
          refine D.backT (by kernel_rfl) ?_
          refine D.evPG 22 rfl (by kernel_rfl) rfl rfl rfl (np (by kernel_rfl)) (fun _ => E.pickF rfl rfl) ?_
          refine D.evP 23 rfl (by kernel_rfl) rfl (np (by kernel_rfl)) (fun _ => E.pickT rfl rfl) ?_
          refine D.done rfl (by kernel_rfl) ?_
          refine X.keep [(1, _), (5, _), (6, _), (8, _), (96, _)] ⟨rfl, rfl, rfl, rfl, rfl, trivial⟩ ?_
          refine X.next ?_
          refine C.cfalse rfl ?_
          refine C.skip ?_
          refine X.blockNormal ?_
          refine X.next ?_
          refine C.region ?_
          refine R.ev rfl (E.move rfl) ?_
          refine R.ev rfl (E.add rfl rfl (by omega) (by omega)) ?_
          refine R.ev rfl (E.assign rfl) ?_
          refine R.done ?_
          refine X.keep [(1, _), (5, _), (6, _), (8, _)] ⟨rfl, rfl, rfl, rfl, trivial⟩ ?_
          have hcp : ∀ s a, (remS s a).cap = s.cap := by intro s a; unfold remS; split <;> rfl
          first
            | exact X.again (k + 1, _, F14) ⟨rfl, rfl, rfl, rfl, trivial⟩ ⟨by omega, hinv2.rem y.id, by rw [hcp]; exact hcap, hw14, hs.to⟩ (by show _ - _ < _ - _; omega)
            | exact X.again (k + 1, _, F11) ⟨rfl, rfl, rfl, rfl, trivial⟩ ⟨by omega, hinv2, hcap, hw11, hs.to⟩ (by show _ - _ < _ - _; omega)
        · refine D.skipP 7 rfl (by kernel_rfl) rfl rfl rfl (fun _ => hs.to) ?_
          refine D.skipP 11 rfl (by kernel_rfl) rfl rfl rfl (fun _ => hs.to) ?_
          refine D.skip 8 rfl (by kernel_rfl) rfl rfl rfl hs.to ?_
          refine D.skip 10 rfl (by kernel_rfl) rfl rfl rfl hs.to ?_
          refine D.skipP 12 rfl (by kernel_rfl) rfl rfl rfl (fun _ => hs.to) ?_
          refine D.act 9 rfl (by kernel_rfl) ?_
          refine R.gskip rfl rfl rfl ?_
          refine D.back hs.to ?_
          refine D.skipP 13 rfl (by kernel_rfl) rfl rfl rfl (fun _ => hs.to) ?_
          refine D.undefP 14 rfl (by kernel_rfl) rfl rfl (fun _ => hs.to) ?_
          refine D.undefP 15 rfl (by kernel_rfl) rfl rfl (fun _ => hs.to) ?_
          refine D.skipP 16 rfl (by kernel_rfl) rfl rfl rfl (fun _ => hs.to) ?_
          refine D.skipP 17 rfl (by kernel_rfl) rfl rfl rfl (fun _ => hs.to) ?_
          refine D.skipP 18 rfl (by kernel_rfl) rfl rfl rfl (fun _ => hs.to) ?_
          refine D.undefP 19 rfl (by kernel_rfl) rfl rfl (fun _ => hs.to) ?_
          refine D.act 20 rfl (by kernel_rfl) ?_
          refine R.gundef rfl rfl ?_
          refine D.backT (by kernel_rfl) ?_
          refine D.act 21 rfl (by kernel_rfl) ?_
          refine R.gundef rfl rfl ?_
          refine D.backT (by kernel_rfl) ?_
          refine D.skipP 22 rfl (by kernel_rfl) rfl rfl rfl (np (by kernel_rfl)) ?_
          refine D.evP 23 rfl (by kernel_rfl) rfl (np (by kernel_rfl)) (fun _ => E.pickF rfl rfl) ?_
          refine D.done rfl (by kernel_rfl) ?_
          refine X.keep [(1, _), (5, _), (6, _), (8, _), (96, _)] ⟨rfl, rfl, rfl, rfl, rfl, trivial⟩ ?_
          refine X.next ?_
          refine C.cfalse rfl ?_
          refine C.skip ?_
          refine X.blockNormal ?_
          refine X.next ?_
          refine C.region ?_
          refine R.ev rfl (E.move rfl) ?_
          refine R.ev rfl (E.add rfl rfl (by omega) (by omega)) ?_
          refine R.ev rfl (E.assign rfl) ?_
          refine R.done ?_
          refine X.keep [(1, _), (5, _), (6, _), (8, _)] ⟨rfl, rfl, rfl, rfl, trivial⟩ ?_
          have hcp : ∀ s a, (remS s a).cap = s.cap := by intro s a; unfold remS; split <;> rfl
          first
            | exact X.again (k + 1, _, F14) ⟨rfl, rfl, rfl, rfl, trivial⟩ ⟨by omega, hinv2.rem y.id, by rw [hcp]; exact hcap, hw14, hs.to⟩ (by show _ - _ < _ - _; omega)
            | exact X.again (k + 1, _, F11) ⟨rfl, rfl, rfl, rfl, trivial⟩ ⟨by omega, hinv2, hcap, hw11, hs.to⟩ (by show _ - _ < _ - _; omega)
    · refine C.exit ?_
      refine X.thenExit ?_
      refine X.loopExit ?_
      refine X.blockExit ?_
      refine X.next ?_
      refine C.seq ?_
      refine C.region ?_
      refine R.ev rfl (E.assign rfl) ?_
      refine R.done ?_
      refine X.keep [(4, _)] ⟨rfl, trivial⟩ ?_
      refine X.next ?_
      refine C.ret ?_
      refine X.ret1 rfl rfl ?_
      exact ⟨rfl, hs.mod⟩

namespace backlogBounded
open Go.ChangeShapes Go.WideShapes Go.ChangeAt Go.RowKit
open Go.ChangeMaps (open_string shut_string)
set_option linter.unusedVariables false

theorem own : ownKnob Try.prog.godebug = none := by kernel_rfl
theorem laidOut : laidOutB Try.prog = true := by kernel_rfl
set_option maxRecDepth 100000 in
theorem lifted (os : Os) (started : os.Started) (H : Type) (enc : TypeId × Value → H) :
    ReturnsInHanded {} Try.checked os 3 .any (Rows.backlogBoundedSpec.pre6 enc Try.prog Try.f3 Rows.backlogBoundedRow.domain false) (Rows.backlogBoundedSpec.post enc Try.prog Try.f3 false true false false) := by
  refine returnsInHanded_of_change (C := Try.checked) own started (by kernel_rfl) Try.func3
    (ChangeSpec.witness6 (enc := enc) (C := Try.checked) false ⟨#[], #[.int .u8 0, .slice none 0 0], []⟩ 8 (by kernel_rfl) (by kernel_rfl) (by kernel_rfl) (by kernel_rfl)) ?_
  intro W base args ds gs before hval0 hW hcnd _
  have hval : ∀ (j : Nat) t v, Try.f3.params[j]? = some t → args[j]? = some v → Value.okWide Try.prog W .any base t v := hval0
  have hW' := hW
  obtain ⟨p, q, hA0, hV, rfl, hfz, hnd⟩ := hW
  have hA : DataW.TrodAll enc Try.prog W 0 (fun _ => true) true Try.f3.params.toList args.toList ds p := hA0
  rw [Try.params3] at hA hval
  obtain ⟨v0, vs0, d0, ds0, p0, q0, hargs, rfl, rfl, h0, r0⟩ := trodAll_cons hA
  obtain ⟨v1, vs1, d1, ds1, p1, q1, rfl, rfl, rfl, h1, r1⟩ := trodAll_cons r0
  obtain ⟨rfl, rfl, rfl⟩ := trodAll_nil r1
  obtain rfl : args = #[v0, v1] := by cases args; simp_all
  obtain ⟨rfl, rfl⟩ := trodVars_none hV
  have lt0 : ∀ x ∈ p0, x.block < W.heap.size := by obtain ⟨m, hm⟩ := h0; exact DataW.trod_lt m _ _ _ hm
  have a0 := Eng.argv_of (hval 0 5 v0 rfl rfl) h0
  have lt1 : ∀ x ∈ p1, x.block < W.heap.size := by obtain ⟨m, hm⟩ := h1; exact DataW.trod_lt m _ _ _ hm
  have a1 := Eng.argv_of (hval 1 22 v1 rfl rfl) h1
  clear hA0 hval0
  refine Calls.mono (bounded_walk W v0 a0 v1 a1) fun e W' ⟨v, he, hv, hm⟩ => ?_
  subst he
  subst hv
  have bel := hm.below
  exact ⟨_, rfl, _, _, _, [], _, [], hW', trodAll_mk1 (shut_bool Try.underlying4 _), (trodAll_cons_mk (Below.trod laidOut (by kernel_rfl) (of_decide_eq_true (by kernel_rfl)) h0 bel lt0) (trodAll_cons_mk (Below.trod laidOut (by kernel_rfl) (of_decide_eq_true (by kernel_rfl)) h1 bel lt1) trodAll_mk0)), rfl, bel.frame _, fun h => by cases h⟩

theorem over : Rows.backlogBoundedRow.holds Try.pinned (OpenSpec.ofChange Rows.backlogBoundedSpec) :=
  OpenClaim.holds_of_wide 3 Try.f3 rfl rfl rfl rfl rfl rfl rfl ⟨rfl, rfl, rfl, rfl, rfl⟩ rfl rfl rfl rfl rfl (by kernel_rfl) Try.func3 (by kernel_rfl)
    (of_decide_eq_true (by kernel_rfl)) (by unfold Func.isWrapper; first | (rw [if_pos (by decide +kernel)]; kernel_rfl) | (rw [if_neg (by decide +kernel)]; exact ⟨rfl, rfl⟩))
    (fun os started H enc _ => lifted os started H enc)
end backlogBounded
/-- the statement -/
theorem backlogBounded_holds : Rows.BacklogBoundedSaid := backlogBounded.over
#print axioms backlogBounded_holds
end Go.Proofs.Ytoidpcmcbmioiaa
