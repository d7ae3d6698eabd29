/-
  BacklogEncode returns true for every input. No condition.
-/
import Derived.Test.YtoidpcmcbmioiaaRows
import Derived.Test.YtoidpcmcbmioiaaDecP
namespace Go.Proofs.Ytoidpcmcbmioiaa
open Go.Eng Go.RowKit

theorem encode_walk (w : World) (v0 : Value) (a0 : ArgV Try.prog w 22 v0) : Ret Try.prog 11 #[v0] w fun r w' => r = .bool true ∧ Mod [] w w' := by
  obtain ⟨ad, cap, ops, rfl, hc, hcm, hr, hok⟩ := argv_ops a0
  unfold maxLen at hcm
  have hs := Sat.start w
  have hnew : newOk 10 3 = true := by decide
  refine Ret.enter (n := 61) (args := [.slice ad ops.length cap]) Try.func11 rfl rfl ?_
  refine C.keep [(0, _)] ⟨rfl, trivial⟩ ?_
  refine C.seq ?_
  refine C.region ?_
  refine R.ev rfl (E.assign rfl) ?_
  refine R.done ?_
  refine X.keep [(0, _)] ⟨rfl, trivial⟩ ?_
  refine X.next ?_
  refine C.seq ?_
  refine C.seq ?_
  refine C.region ?_
  refine R.call ⟨_, _, Try.func12, rfl, by kernel_rfl⟩ rfl rfl (known_any hs) ?_
  rintro _ w1 ⟨rfl, hs⟩
  refine R.ev rfl (E.notT rfl) ?_
  refine R.ev rfl (E.move rfl) ?_
  refine R.gyes rfl rfl ?_
  refine R.ev rfl (E.move rfl) ?_
  refine R.gyes rfl rfl ?_
  refine R.call ⟨_, _, Try.func13, rfl, by kernel_rfl⟩ rfl rfl (small_any hs (by omega)) ?_
  rintro _ w14 ⟨rfl, hs⟩
  refine R.gyes rfl rfl ?_
  refine R.ev rfl ((E.not rfl).isB (c := !(smallB ops)) rfl) ?_
  refine R.ev rfl (E.pickF rfl rfl) ?_
  refine R.done ?_
  refine X.keep [(0, _), (17, _)] ⟨rfl, rfl, trivial⟩ ?_
  refine X.next ?_
  refine C.cbool rfl (fun h17 => ?_) (fun h17 => ?_)
  · refine C.seq ?_
    refine C.region ?_
    refine R.call ⟨_, _, Try.func12, rfl, by kernel_rfl⟩ rfl rfl (known_any hs) ?_
    rintro _ w2 ⟨rfl, hs⟩
    refine R.ev rfl (E.assign rfl) ?_
    refine R.done ?_
    refine X.keep [(2, _)] ⟨rfl, trivial⟩ ?_
    refine X.next ?_
    refine C.ret ?_
    refine X.thenRet ?_
    refine X.ret1 rfl rfl ?_
    exact ⟨rfl, hs.mod⟩
  · have hsm : smallB ops = true := by simpa using h17
    refine C.skip ?_
    refine X.next ?_
    refine C.seq ?_
    refine C.region ?_
    refine R.ev rfl (E.move rfl) ?_
    refine R.call ⟨_, _, Try.func28, rfl, by kernel_rfl⟩ rfl rfl (run_any 10 3 hs hok hsm hnew) ?_
    rintro _ w3 ⟨K3, p, v3, F3, rfl, hk3, hr3, hw3, hs⟩
    have o3 : OneC v3 := ⟨KRow.oneC' hr3⟩
    have hI := (BInv.start hnew).run ops
    have hT := TOk.run (BInv.start hnew) (k := 0) (fun e he => by cases he) ops
    have hD : DOk (runS (bk0 10 3) ops) := DOk.run (fun e he => by cases he) ops
    have hl0 := (small_op hsm).1
    generalize runS (bk0 10 3) ops = s at hr3 hw3 hI hT hD
    have hlen : s.L.length ≤ 4096 := by have := hI.le; have := hI.cp; omega
    have hdec := dec_out hI hD (fun e he => by have := hT e he; omega)
    have hbl := bytesB_len s
    have hne : bytesB s ≠ [] := by intro e; rw [e] at hbl; simp at hbl; omega
    refine R.ev rfl (E.move rfl) ?_
    refine R.ev rfl (E.extract rfl rfl) ?_
    refine R.ev rfl (E.extract rfl rfl) ?_
    refine R.ev rfl (E.extract rfl rfl) ?_
    refine R.sallocA hs Try.zr52 rfl ?_
    intro b4 w4 hs
    refine R.ev rfl (E.assign rfl) ?_
    first | refine R.cstoreAll hs rfl rfl Try.sz52 (by first | rfl | assumption | exact encV_len _ | exact Enc.len _ | exact len_ub (by assumption) | simp [*]) (by first | rfl | assumption | exact encV_len _ | exact Enc.len _ | exact len_ub (by assumption) | simp [*]) (by first | assumption | exact OneL.all | exact Enc.one _ | exact ub_all _ | (repeat' (first | refine List.forall_mem_cons.2 ⟨?_, ?_⟩ | exact List.forall_mem_nil _ | rfl | exact OneC.one | exact KRow.oneC' (by assumption)))) ?_ | refine R.cstore hs rfl rfl Try.sz52 (by first | rfl | assumption | exact encV_len _ | exact Enc.len _ | exact len_ub (by assumption) | simp [*]) (by simp [*]) (by first | assumption | exact OneL.all | exact Enc.one _ | exact ub_all _ | (repeat' (first | refine List.forall_mem_cons.2 ⟨?_, ?_⟩ | exact List.forall_mem_nil _ | rfl | exact OneC.one | exact KRow.oneC' (by assumption)))) ?_
    intro w3_8 hs
    try simp only [List.set_cons_zero, List.set_cons_succ] at hs
    refine R.ev rfl (E.assign rfl) ?_
    refine R.done ?_
    refine X.keep [(3, _), (4, _), (5, _)] ⟨rfl, rfl, rfl, trivial⟩ ?_
    refine X.next ?_
    refine C.seq ?_
    refine C.seq ?_
    refine C.region ?_
    refine R.ev rfl (E.move rfl) ?_
    refine R.ev rfl (E.notT rfl) ?_
    refine R.done ?_
    refine X.keep [(3, _), (4, _), (26, _)] ⟨rfl, rfl, rfl, trivial⟩ ?_
    refine X.next ?_
    refine C.cfalse rfl ?_
    refine C.skip ?_
    refine X.next ?_
    refine C.seq ?_
    refine C.region ?_
    refine R.ev rfl (E.move rfl) ?_
    refine R.call ⟨_, _, Try.func32, rfl, by kernel_rfl⟩ rfl rfl (encode_any hs (by omega)) ?_
    rintro v6 w6 ⟨F6, r6, hs⟩
    obtain ⟨K6, hk6, k6, hs⟩ := r6.freezeK hs
    obtain ⟨ad6, cap6, rfl, _⟩ := k6.ex
    refine R.ev rfl (E.assign rfl) ?_
    refine R.done ?_
    refine X.keep [(3, _), (4, _), (6, _)] ⟨rfl, rfl, rfl, trivial⟩ ?_
    refine X.next ?_
    refine C.seq ?_
    refine C.region ?_
    refine R.ev rfl (E.move rfl) ?_
    refine R.call ⟨_, _, Try.func30, rfl, by kernel_rfl⟩ rfl rfl (decode_any (P := bytesB s) hs) ?_
    rintro _ w7 ⟨K7, hk7, h7⟩
    rw [hdec.1, hdec.2] at h7
    obtain ⟨q, F7, rfl, hw7, hs⟩ : ∃ q F, _ = Value.tuple #[ptr q, .int .i64 0] ∧ BkL q { s with M := [] } F ∧ Sat K7 w7 (F :: _) := by
      rcases h7 with ⟨h, _⟩ | ⟨_, h⟩
      · exact absurd rfl h
      · exact h
    refine R.ev rfl (E.move rfl) ?_
    refine R.ev rfl (E.extract rfl rfl) ?_
    refine R.ev rfl (E.extract rfl rfl) ?_
    refine R.ev rfl (E.assign rfl) ?_
    refine R.ev rfl (E.assign rfl) ?_
    refine R.done ?_
    refine X.keep [(3, _), (4, _), (6, _), (7, _), (8, _)] ⟨rfl, rfl, rfl, rfl, rfl, trivial⟩ ?_
    refine X.next ?_
    refine C.seq ?_
    refine C.region ?_
    refine R.ev rfl (E.loadRowC rfl Try.underlying52 rfl Try.sz52 (by first | exact ⟨hs.ldA, by first | rfl | assumption | exact encV_len _ | exact Enc.len _ | exact len_ub (by assumption)⟩ | exact ⟨hs.ldP rfl, by first | rfl | assumption | exact encV_len _ | exact Enc.len _ | exact len_ub (by assumption)⟩ | exact ⟨hs.ldM rfl rfl, by first | rfl | assumption | exact encV_len _ | exact Enc.len _ | exact len_ub (by assumption)⟩ | exact ⟨hs.ldM (by assumption) (by first | rfl | assumption), by first | rfl | assumption | exact encV_len _ | exact Enc.len _ | exact len_ub (by assumption)⟩ | exact ⟨by assumption, by first | rfl | assumption | exact encV_len _ | exact Enc.len _ | exact len_ub (by assumption)⟩ | exact hs.ldp | exact At.partC (by assumption))) ?_
    refine R.call ⟨_, _, Try.func42, rfl, by kernel_rfl⟩ rfl rfl (rdrop_any (s := vw s) (v := v3) hs (by have := vw_len s; omega)) ?_
    rintro _ w8 ⟨K8, v8, rfl, hk8, hr8, hs⟩
    have o8 : OneC v8 := ⟨KRow.oneC' hr8⟩
    rw [← dropS_vw] at hr8
    rw [outs_vw hI, ← dropS_vw]
    refine R.ev rfl (E.move rfl) ?_
    refine R.ev rfl (E.extract rfl rfl) ?_
    refine R.ev rfl (E.extract rfl rfl) ?_
    refine R.sallocA hs Try.zr52 rfl ?_
    intro b9 w9 hs
    first | refine R.cstoreAll hs rfl rfl Try.sz52 (by first | rfl | assumption | exact encV_len _ | exact Enc.len _ | exact len_ub (by assumption) | simp [*]) (by first | rfl | assumption | exact encV_len _ | exact Enc.len _ | exact len_ub (by assumption) | simp [*]) (by first | assumption | exact OneL.all | exact Enc.one _ | exact ub_all _ | (repeat' (first | refine List.forall_mem_cons.2 ⟨?_, ?_⟩ | exact List.forall_mem_nil _ | rfl | exact OneC.one | exact KRow.oneC' (by assumption)))) ?_ | refine R.cstore hs rfl rfl Try.sz52 (by first | rfl | assumption | exact encV_len _ | exact Enc.len _ | exact len_ub (by assumption) | simp [*]) (by simp [*]) (by first | assumption | exact OneL.all | exact Enc.one _ | exact ub_all _ | (repeat' (first | refine List.forall_mem_cons.2 ⟨?_, ?_⟩ | exact List.forall_mem_nil _ | rfl | exact OneC.one | exact KRow.oneC' (by assumption)))) ?_
    intro w8_6 hs
    try simp only [List.set_cons_zero, List.set_cons_succ] at hs
    refine R.ev rfl (E.assign rfl) ?_
    refine R.done ?_
    refine X.keep [(3, _), (4, _), (6, _), (7, _), (8, _), (9, _)] ⟨rfl, rfl, rfl, rfl, rfl, rfl, trivial⟩ ?_
    refine X.next ?_
    refine C.seq ?_
    refine C.region ?_
    refine R.ev rfl (E.move rfl) ?_
    refine R.call ⟨_, _, Try.func21, rfl, by kernel_rfl⟩ rfl rfl (drop_any (hs.front (F := F3))) ?_
    rintro _ w9 ⟨rfl, F9, hw9, hs1⟩
    have hs := hs.back (F := F3) hs1
    refine R.done ?_
    refine X.keep [(3, _), (4, _), (6, _), (7, _), (8, _), (9, _)] ⟨rfl, rfl, rfl, rfl, rfl, rfl, trivial⟩ ?_
    refine X.next ?_
    refine C.seq ?_
    refine C.drawn (SatS hs) ([1, 2, 12], [0, 5, 6, 7, 8, 9, 10, 11, 14, 15, 16, 17, 19, 20]) (by kernel_rfl) ?_
    have hs := hs.drew
    refine D.evP 0 rfl (by kernel_rfl) rfl (fun _ => hs.to) (fun _ => E.move rfl) ?_
    refine D.ev 1 rfl (by kernel_rfl) rfl hs.to (fun _ hS => E.bytesRd hS rfl Try.underlying57 Try.underlying5 Try.underlying9 hne) ?_
    refine D.ev 2 rfl (by kernel_rfl) rfl hs.to (fun _ hS => E.loadRowC rfl Try.underlying52 rfl Try.sz52 (by first | exact ⟨hS.ldA, by first | rfl | assumption | exact encV_len _ | exact Enc.len _ | exact len_ub (by assumption)⟩ | exact ⟨hS.ldP rfl, by first | rfl | assumption | exact encV_len _ | exact Enc.len _ | exact len_ub (by assumption)⟩ | exact ⟨hS.ldM rfl rfl, by first | rfl | assumption | exact encV_len _ | exact Enc.len _ | exact len_ub (by assumption)⟩ | exact ⟨hS.ldM (by assumption) (by first | rfl | assumption), by first | rfl | assumption | exact encV_len _ | exact Enc.len _ | exact len_ub (by assumption)⟩ | exact ⟨by assumption, by first | rfl | assumption | exact encV_len _ | exact Enc.len _ | exact len_ub (by assumption)⟩ | exact ⟨(by assumption : ∀ w', Sat _ w' _ → At w' _ _ _) _ hS, by first | rfl | assumption | exact encV_len _ | exact Enc.len _ | exact len_ub (by assumption)⟩ | exact hS.ldp | exact At.partC (by assumption) | exact At.partC ((by assumption : ∀ w', Sat _ w' _ → At w' _ _ _) _ hS))) ?_
    refine D.act 3 rfl (by kernel_rfl) ?_
    refine R.call ⟨_, _, Try.func43, rfl, by kernel_rfl⟩ rfl rfl (rencode_any (s := vw s) (v := v3) hs (by have := vw_len s; omega)) ?_
    rintro v44 w44 ⟨F44, r44, hs⟩
    rw [rbytes_vw] at r44
    obtain ⟨ad44, cap44, rfl, _⟩ := r44.val
    refine D.back hs.to ?_
    refine D.act 4 rfl (by kernel_rfl) ?_
    refine R.ev rfl (E.bytesRd hs rfl Try.underlying57 Try.underlying5 Try.underlying9 hne) ?_
    refine D.back hs.to ?_
    refine D.evP 5 rfl (by kernel_rfl) rfl (fun _ => hs.to) (fun _ => (E.seql rfl rfl).isT rfl) ?_
    refine D.evP 6 rfl (by kernel_rfl) rfl (fun _ => hs.to) (fun _ => E.move rfl) ?_
    refine D.evPG 7 rfl (by kernel_rfl) rfl rfl rfl (fun _ => hs.to) (fun _ => E.move rfl) ?_
    refine D.evPG 8 rfl (by kernel_rfl) rfl rfl rfl (fun _ => hs.to) (fun _ => (E.eql rfl rfl).isT rfl) ?_
    refine D.evP 9 rfl (by kernel_rfl) rfl (fun _ => hs.to) (fun _ => E.pickT rfl rfl) ?_
    refine D.evP 10 rfl (by kernel_rfl) rfl (fun _ => hs.to) (fun _ => E.move rfl) ?_
    refine D.evPG 11 rfl (by kernel_rfl) rfl rfl rfl (fun _ => hs.to) (fun _ => E.move rfl) ?_
    refine D.evG 12 rfl (by kernel_rfl) rfl rfl rfl hs.to (fun _ hS => E.loadRowC rfl Try.underlying52 rfl Try.sz52 (by first | exact ⟨hS.ldA, by first | rfl | assumption | exact encV_len _ | exact Enc.len _ | exact len_ub (by assumption)⟩ | exact ⟨hS.ldP rfl, by first | rfl | assumption | exact encV_len _ | exact Enc.len _ | exact len_ub (by assumption)⟩ | exact ⟨hS.ldM rfl rfl, by first | rfl | assumption | exact encV_len _ | exact Enc.len _ | exact len_ub (by assumption)⟩ | exact ⟨hS.ldM (by assumption) (by first | rfl | assumption), by first | rfl | assumption | exact encV_len _ | exact Enc.len _ | exact len_ub (by assumption)⟩ | exact ⟨by assumption, by first | rfl | assumption | exact encV_len _ | exact Enc.len _ | exact len_ub (by assumption)⟩ | exact ⟨(by assumption : ∀ w', Sat _ w' _ → At w' _ _ _) _ hS, by first | rfl | assumption | exact encV_len _ | exact Enc.len _ | exact len_ub (by assumption)⟩ | exact hS.ldp | exact At.partC (by assumption) | exact At.partC ((by assumption : ∀ w', Sat _ w' _ → At w' _ _ _) _ hS))) ?_
    refine D.act 13 rfl (by kernel_rfl) ?_
    refine R.gyes rfl rfl ?_
    refine R.call ⟨_, _, Try.func29, rfl, by kernel_rfl⟩ rfl rfl (view_any (s := { s with M := [] }) (v := v8) hI.drop hs) ?_
    rintro _ w1013 ⟨rfl, hs⟩
    refine D.backT (by kernel_rfl) ?_
    refine D.evP 14 rfl (by kernel_rfl) rfl (np (by kernel_rfl)) (fun _ => E.pickT rfl rfl) ?_
    refine D.evP 15 rfl (by kernel_rfl) rfl (np (by kernel_rfl)) (fun _ => E.move rfl) ?_
    refine D.evPG 16 rfl (by kernel_rfl) rfl rfl rfl (np (by kernel_rfl)) (fun _ => E.move rfl) ?_
    refine D.evPG 17 rfl (by kernel_rfl) rfl rfl rfl (np (by kernel_rfl)) (fun _ => E.move rfl) ?_
    refine D.act 18 rfl (by kernel_rfl) ?_
    refine R.gyes rfl rfl ?_
    refine R.call ⟨_, _, Try.func39, rfl, by kernel_rfl⟩ rfl rfl (equal_any (s := { s with M := [] }) (s2 := { s with M := [] }) hs (by simp only; omega)) ?_
    rintro _ w1018 ⟨h1018, hs⟩
    rw [eqB_vw hI.drop hI.drop, show sameR (vw { s with M := [] }) (vw { s with M := [] }) = true by simp [sameR]] at h1018
    subst h1018
    refine D.backT (by kernel_rfl) ?_
    refine D.evP 19 rfl (by kernel_rfl) rfl (np (by kernel_rfl)) (fun _ => E.pickT rfl rfl) ?_
    refine D.evP 20 rfl (by kernel_rfl) rfl (np (by kernel_rfl)) (fun _ => E.assign rfl) ?_
    refine D.done rfl (by kernel_rfl) ?_
    refine X.keep [(2, _)] ⟨rfl, trivial⟩ ?_
    refine X.next ?_
    refine C.ret ?_
    refine X.ret1 rfl rfl ?_
    exact ⟨rfl, (hs.less (((hk3.trans hk6).trans hk7).trans hk8).le).mod⟩

namespace backlogEncode
open Go.ChangeShapes Go.WideShapes Go.ChangeAt Go.RowKit
open Go.ChangeMaps (open_string shut_string)
set_option linter.unusedVariables false

theorem own : ownKnob Try.prog.godebug = none := by kernel_rfl
theorem laidOut : laidOutB Try.prog = true := by kernel_rfl
set_option maxRecDepth 100000 in
theorem lifted (os : Os) (started : os.Started) (H : Type) (enc : TypeId × Value → H) :
    ReturnsInHanded {} Try.checked os 11 .any (Rows.backlogEncodeSpec.pre6 enc Try.prog Try.f11 Rows.backlogEncodeRow.domain false) (Rows.backlogEncodeSpec.post enc Try.prog Try.f11 false true false false) := by
  refine returnsInHanded_of_change (C := Try.checked) own started (by kernel_rfl) Try.func11
    (ChangeSpec.witness6 (enc := enc) (C := Try.checked) false ⟨#[], #[.slice none 0 0], []⟩ 8 (by kernel_rfl) (by kernel_rfl) (by kernel_rfl) (by kernel_rfl)) ?_
  intro W base args ds gs before hval0 hW hcnd _
  have hval : ∀ (j : Nat) t v, Try.f11.params[j]? = some t → args[j]? = some v → Value.okWide Try.prog W .any base t v := hval0
  have hW' := hW
  obtain ⟨p, q, hA0, hV, rfl, hfz, hnd⟩ := hW
  have hA : DataW.TrodAll enc Try.prog W 0 (fun _ => true) true Try.f11.params.toList args.toList ds p := hA0
  rw [Try.params11] at hA hval
  obtain ⟨v0, vs0, d0, ds0, p0, q0, hargs, rfl, rfl, h0, r0⟩ := trodAll_cons hA
  obtain ⟨rfl, rfl, rfl⟩ := trodAll_nil r0
  obtain rfl : args = #[v0] := by cases args; simp_all
  obtain ⟨rfl, rfl⟩ := trodVars_none hV
  have lt0 : ∀ x ∈ p0, x.block < W.heap.size := by obtain ⟨m, hm⟩ := h0; exact DataW.trod_lt m _ _ _ hm
  have a0 := Eng.argv_of (hval 0 22 v0 rfl rfl) h0
  clear hA0 hval0
  refine Calls.mono (encode_walk W v0 a0) fun e W' ⟨v, he, hv, hm⟩ => ?_
  subst he
  subst hv
  have bel := hm.below
  exact ⟨_, rfl, _, _, _, [], _, [], hW', trodAll_mk1 (shut_bool Try.underlying4 _), (trodAll_cons_mk (Below.trod laidOut (by kernel_rfl) (of_decide_eq_true (by kernel_rfl)) h0 bel lt0) trodAll_mk0), rfl, bel.frame _, fun h => by cases h⟩

theorem over : Rows.backlogEncodeRow.holds Try.pinned (OpenSpec.ofChange Rows.backlogEncodeSpec) :=
  OpenClaim.holds_of_wide 11 Try.f11 rfl rfl rfl rfl rfl rfl rfl ⟨rfl, rfl, rfl, rfl, rfl⟩ rfl rfl rfl rfl rfl (by kernel_rfl) Try.func11 (by kernel_rfl)
    (of_decide_eq_true (by kernel_rfl)) (by unfold Func.isWrapper; first | (rw [if_pos (by decide +kernel)]; kernel_rfl) | (rw [if_neg (by decide +kernel)]; exact ⟨rfl, rfl⟩))
    (fun os started H enc _ => lifted os started H enc)
end backlogEncode
/-- the statement -/
theorem backlogEncode_holds : Rows.BacklogEncodeSaid := backlogEncode.over
#print axioms backlogEncode_holds
end Go.Proofs.Ytoidpcmcbmioiaa
