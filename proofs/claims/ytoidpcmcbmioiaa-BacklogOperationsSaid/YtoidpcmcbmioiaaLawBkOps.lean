/-
  BacklogOperations returns true for every input. No condition.
-/
import Derived.Test.YtoidpcmcbmioiaaRows
import Derived.Test.YtoidpcmcbmioiaaRun38
namespace Go.Proofs.Ytoidpcmcbmioiaa
open Go.Eng Go.RowKit

theorem ops_walk (w : World) (v0 : Value) (a0 : ArgV Try.prog w 3 v0) (v1 : Value) (a1 : ArgV Try.prog w 3 v1) (v2 : Value) (a2 : ArgV Try.prog w 22 v2) : Ret Try.prog 6 #[v0, v1, v2] w fun r w' => r = .bool true ∧ Mod [] w w' := by
  obtain ⟨c, rfl, _⟩ := argv_int a0 Try.underlying3
  obtain ⟨wt, rfl, _⟩ := argv_int a1 Try.underlying3
  obtain ⟨ad, cap, ops, rfl, hc, hcm, hr, hok⟩ := argv_ops a2
  unfold maxLen at hcm
  have hs := Sat.start w
  cases hnew : newOk c wt with
  | true =>
    refine Ret.enter (n := 36) (args := [.int .i64 c, .int .i64 wt, .slice ad ops.length cap]) Try.func6 rfl rfl ?_
    refine C.keep [(0, _), (1, _), (2, _)] ⟨rfl, rfl, rfl, trivial⟩ ?_
    refine C.seq ?_
    refine C.region ?_
    refine R.ev rfl (E.assign rfl) ?_
    refine R.done ?_
    refine X.keep [(0, _), (1, _), (2, _)] ⟨rfl, rfl, rfl, trivial⟩ ?_
    refine X.next ?_
    refine C.seq ?_
    refine C.seq ?_
    refine C.region ?_
    refine R.call ⟨_, _, Try.func12, rfl, by kernel_rfl⟩ rfl rfl (known_any hs) ?_
    rintro _ w1 ⟨rfl, hs⟩
    refine R.ev rfl (E.notT rfl) ?_
    refine R.ev rfl (E.move rfl) ?_
    refine R.gyes rfl rfl ?_
    refine R.ev rfl (E.move rfl) ?_
    refine R.gyes rfl rfl ?_
    refine R.call ⟨_, _, Try.func13, rfl, by kernel_rfl⟩ rfl rfl (small_any hs (by omega)) ?_
    rintro _ w14 ⟨rfl, hs⟩
    refine R.gyes rfl rfl ?_
    refine R.ev rfl ((E.not rfl).isB (c := !(smallB ops)) rfl) ?_
    refine R.ev rfl (E.pickF rfl rfl) ?_
    refine R.done ?_
    refine X.keep [(0, _), (1, _), (2, _), (16, _)] ⟨rfl, rfl, rfl, rfl, trivial⟩ ?_
    refine X.next ?_
    refine C.cbool rfl (fun h16 => ?_) (fun h16 => ?_)
    · refine C.seq ?_
      refine C.region ?_
      refine R.call ⟨_, _, Try.func12, rfl, by kernel_rfl⟩ rfl rfl (known_any hs) ?_
      rintro _ w2 ⟨rfl, hs⟩
      refine R.ev rfl (E.assign rfl) ?_
      refine R.done ?_
      refine X.keep [(6, _)] ⟨rfl, trivial⟩ ?_
      refine X.next ?_
      refine C.ret ?_
      refine X.thenRet ?_
      refine X.ret1 rfl rfl ?_
      exact ⟨rfl, hs.mod⟩
    · have hsm : smallB ops = true := by simpa using h16
      refine C.skip ?_
      refine X.next ?_
      refine C.seq ?_
      refine C.region ?_
      refine R.ev rfl (E.move rfl) ?_
      refine R.ev rfl (E.move rfl) ?_
      refine R.ev rfl (E.move rfl) ?_
      refine R.call ⟨_, _, Try.func28, rfl, by kernel_rfl⟩ rfl rfl (run_any c wt hs hok hsm hnew) ?_
      rintro _ w3 ⟨K3, p, v3, F3, rfl, hk3, hr3, hw3, hs⟩
      have o3 : OneC v3 := ⟨KRow.oneC' hr3⟩
      refine R.ev rfl (E.move rfl) ?_
      refine R.ev rfl (E.extract rfl rfl) ?_
      refine R.ev rfl (E.extract rfl rfl) ?_
      refine R.ev rfl (E.extract rfl rfl) ?_
      refine R.sallocA hs Try.zr52 rfl ?_
      intro b8 w8 hs
      refine R.ev rfl (E.assign rfl) ?_
      first | refine R.cstoreAll hs rfl rfl Try.sz52 (by first | rfl | assumption | exact encV_len _ | exact Enc.len _ | exact len_ub (by assumption) | simp [*]) (by first | rfl | assumption | exact encV_len _ | exact Enc.len _ | exact len_ub (by assumption) | simp [*]) (by first | assumption | exact OneL.all | exact Enc.one _ | exact ub_all _ | (repeat' (first | refine List.forall_mem_cons.2 ⟨?_, ?_⟩ | exact List.forall_mem_nil _ | rfl | exact OneC.one | exact KRow.oneC' (by assumption)))) ?_ | refine R.cstore hs rfl rfl Try.sz52 (by first | rfl | assumption | exact encV_len _ | exact Enc.len _ | exact len_ub (by assumption) | simp [*]) (by simp [*]) (by first | assumption | exact OneL.all | exact Enc.one _ | exact ub_all _ | (repeat' (first | refine List.forall_mem_cons.2 ⟨?_, ?_⟩ | exact List.forall_mem_nil _ | rfl | exact OneC.one | exact KRow.oneC' (by assumption)))) ?_
      intro w3_10 hs
      try simp only [List.set_cons_zero, List.set_cons_succ] at hs
      refine R.ev rfl (E.assign rfl) ?_
      refine R.done ?_
      refine X.keep [(7, _), (8, _), (9, _)] ⟨rfl, rfl, rfl, trivial⟩ ?_
      refine X.next ?_
      refine C.seq ?_
      refine C.region ?_
      refine R.ev rfl (E.move rfl) ?_
      refine R.ev rfl (E.move rfl) ?_
      refine R.gyes rfl rfl ?_
      refine R.ev rfl (E.move rfl) ?_
      refine R.gyes rfl rfl ?_
      refine R.ev rfl (E.eqlNilF rfl rfl Try.underlying25) ?_
      refine R.gyes rfl rfl ?_
      refine R.ev rfl (E.move rfl) ?_
      refine R.gyes rfl rfl ?_
      refine R.ev rfl (E.move rfl) ?_
      refine R.gyes rfl rfl ?_
      refine R.ev rfl (E.loadRowC rfl Try.underlying52 rfl Try.sz52 (by first | exact ⟨hs.ldA, by first | rfl | assumption | exact encV_len _ | exact Enc.len _ | exact len_ub (by assumption)⟩ | exact ⟨hs.ldP rfl, by first | rfl | assumption | exact encV_len _ | exact Enc.len _ | exact len_ub (by assumption)⟩ | exact ⟨hs.ldM rfl rfl, by first | rfl | assumption | exact encV_len _ | exact Enc.len _ | exact len_ub (by assumption)⟩ | exact ⟨hs.ldM (by assumption) (by first | rfl | assumption), by first | rfl | assumption | exact encV_len _ | exact Enc.len _ | exact len_ub (by assumption)⟩ | exact ⟨by assumption, by first | rfl | assumption | exact encV_len _ | exact Enc.len _ | exact len_ub (by assumption)⟩ | exact hs.ldp | exact At.partC (by assumption))) ?_
      refine R.gyes rfl rfl ?_
      refine R.call ⟨_, _, Try.func29, rfl, by kernel_rfl⟩ rfl rfl (view_any ((BInv.start hnew).run ops) hs) ?_
      rintro _ w4 ⟨rfl, hs⟩
      refine R.gyes rfl rfl ?_
      refine R.ev rfl (E.pickF rfl rfl) ?_
      refine R.ev rfl (E.pickT rfl rfl) ?_
      refine R.ev rfl (E.assign rfl) ?_
      refine R.done ?_
      refine X.keep [(6, _)] ⟨rfl, trivial⟩ ?_
      refine X.next ?_
      refine C.ret ?_
      refine X.ret1 rfl rfl ?_
      exact ⟨rfl, (hs.less hk3.le).mod⟩
  | false =>
    refine Ret.enter (n := 36) (args := [.int .i64 c, .int .i64 wt, .slice ad ops.length cap]) Try.func6 rfl rfl ?_
    refine C.keep [(0, _), (1, _), (2, _)] ⟨rfl, rfl, rfl, trivial⟩ ?_
    refine C.seq ?_
    refine C.region ?_
    refine R.ev rfl (E.assign rfl) ?_
    refine R.done ?_
    refine X.keep [(0, _), (1, _), (2, _)] ⟨rfl, rfl, rfl, trivial⟩ ?_
    refine X.next ?_
    refine C.seq ?_
    refine C.seq ?_
    refine C.region ?_
    refine R.call ⟨_, _, Try.func12, rfl, by kernel_rfl⟩ rfl rfl (known_any hs) ?_
    rintro _ w1 ⟨rfl, hs⟩
    refine R.ev rfl (E.notT rfl) ?_
    refine R.ev rfl (E.move rfl) ?_
    refine R.gyes rfl rfl ?_
    refine R.ev rfl (E.move rfl) ?_
    refine R.gyes rfl rfl ?_
    refine R.call ⟨_, _, Try.func13, rfl, by kernel_rfl⟩ rfl rfl (small_any hs (by omega)) ?_
    rintro _ w14 ⟨rfl, hs⟩
    refine R.gyes rfl rfl ?_
    refine R.ev rfl ((E.not rfl).isB (c := !(smallB ops)) rfl) ?_
    refine R.ev rfl (E.pickF rfl rfl) ?_
    refine R.done ?_
    refine X.keep [(0, _), (1, _), (2, _), (16, _)] ⟨rfl, rfl, rfl, rfl, trivial⟩ ?_
    refine X.next ?_
    refine C.cbool rfl (fun h16 => ?_) (fun h16 => ?_)
    · refine C.seq ?_
      refine C.region ?_
      refine R.call ⟨_, _, Try.func12, rfl, by kernel_rfl⟩ rfl rfl (known_any hs) ?_
      rintro _ w2 ⟨rfl, hs⟩
      refine R.ev rfl (E.assign rfl) ?_
      refine R.done ?_
      refine X.keep [(6, _)] ⟨rfl, trivial⟩ ?_
      refine X.next ?_
      refine C.ret ?_
      refine X.thenRet ?_
      refine X.ret1 rfl rfl ?_
      exact ⟨rfl, hs.mod⟩
    · refine C.skip ?_
      refine X.next ?_
      refine C.seq ?_
      refine C.region ?_
      refine R.ev rfl (E.move rfl) ?_
      refine R.ev rfl (E.move rfl) ?_
      refine R.ev rfl (E.move rfl) ?_
      refine R.call ⟨_, _, Try.func28, rfl, by kernel_rfl⟩ rfl rfl (run_bad c wt hs hnew) ?_
      rintro _ w3 ⟨K3, v3, rfl, hk3, hr3, hs⟩
      have o3 : OneC v3 := ⟨KRow.oneC' hr3⟩
      refine R.ev rfl (E.move rfl) ?_
      refine R.ev rfl (E.extract rfl rfl) ?_
      refine R.ev rfl (E.extract rfl rfl) ?_
      refine R.ev rfl (E.extract rfl rfl) ?_
      refine R.sallocA hs Try.zr52 rfl ?_
      intro b8 w8 hs
      refine R.ev rfl (E.assign rfl) ?_
      first | refine R.cstoreAll hs rfl rfl Try.sz52 (by first | rfl | assumption | exact encV_len _ | exact Enc.len _ | exact len_ub (by assumption) | simp [*]) (by first | rfl | assumption | exact encV_len _ | exact Enc.len _ | exact len_ub (by assumption) | simp [*]) (by first | assumption | exact OneL.all | exact Enc.one _ | exact ub_all _ | (repeat' (first | refine List.forall_mem_cons.2 ⟨?_, ?_⟩ | exact List.forall_mem_nil _ | rfl | exact OneC.one | exact KRow.oneC' (by assumption)))) ?_ | refine R.cstore hs rfl rfl Try.sz52 (by first | rfl | assumption | exact encV_len _ | exact Enc.len _ | exact len_ub (by assumption) | simp [*]) (by simp [*]) (by first | assumption | exact OneL.all | exact Enc.one _ | exact ub_all _ | (repeat' (first | refine List.forall_mem_cons.2 ⟨?_, ?_⟩ | exact List.forall_mem_nil _ | rfl | exact OneC.one | exact KRow.oneC' (by assumption)))) ?_
      intro w3_10 hs
      try simp only [List.set_cons_zero, List.set_cons_succ] at hs
      refine R.ev rfl (E.assign rfl) ?_
      refine R.done ?_
      refine X.keep [(7, _), (8, _), (9, _)] ⟨rfl, rfl, rfl, trivial⟩ ?_
      refine X.next ?_
      refine C.seq ?_
      refine C.region ?_
      refine R.ev rfl (E.move rfl) ?_
      refine R.ev rfl (E.move rfl) ?_
      refine R.gyes rfl rfl ?_
      refine R.ev rfl (E.move rfl) ?_
      refine R.gyes rfl rfl ?_
      refine R.ev rfl (E.eqlNilT rfl rfl Try.underlying25) ?_
      refine R.gyes rfl rfl ?_
      refine R.ev rfl (E.move rfl) ?_
      refine R.gskip rfl rfl rfl ?_
      refine R.gskip rfl rfl rfl ?_
      refine R.gskip rfl rfl rfl ?_
      refine R.gyes rfl rfl ?_
      refine R.ev rfl (E.pickT rfl rfl) ?_
      refine R.ev rfl (E.pickT rfl rfl) ?_
      refine R.ev rfl (E.assign rfl) ?_
      refine R.done ?_
      refine X.keep [(6, _)] ⟨rfl, trivial⟩ ?_
      refine X.next ?_
      refine C.ret ?_
      refine X.ret1 rfl rfl ?_
      exact ⟨rfl, (hs.less hk3.le).mod⟩

namespace backlogOperations
open Go.ChangeShapes Go.WideShapes Go.ChangeAt Go.RowKit
open Go.ChangeMaps (open_string shut_string)
set_option linter.unusedVariables false

theorem own : ownKnob Try.prog.godebug = none := by kernel_rfl
theorem laidOut : laidOutB Try.prog = true := by kernel_rfl
set_option maxRecDepth 100000 in
theorem lifted (os : Os) (started : os.Started) (H : Type) (enc : TypeId × Value → H) :
    ReturnsInHanded {} Try.checked os 6 .any (Rows.backlogOperationsSpec.pre6 enc Try.prog Try.f6 Rows.backlogOperationsRow.domain false) (Rows.backlogOperationsSpec.post enc Try.prog Try.f6 false true false false) := by
  refine returnsInHanded_of_change (C := Try.checked) own started (by kernel_rfl) Try.func6
    (ChangeSpec.witness6 (enc := enc) (C := Try.checked) false ⟨#[], #[.int .i64 0, .int .i64 0, .slice none 0 0], []⟩ 8 (by kernel_rfl) (by kernel_rfl) (by kernel_rfl) (by kernel_rfl)) ?_
  intro W base args ds gs before hval0 hW hcnd _
  have hval : ∀ (j : Nat) t v, Try.f6.params[j]? = some t → args[j]? = some v → Value.okWide Try.prog W .any base t v := hval0
  have hW' := hW
  obtain ⟨p, q, hA0, hV, rfl, hfz, hnd⟩ := hW
  have hA : DataW.TrodAll enc Try.prog W 0 (fun _ => true) true Try.f6.params.toList args.toList ds p := hA0
  rw [Try.params6] at hA hval
  obtain ⟨v0, vs0, d0, ds0, p0, q0, hargs, rfl, rfl, h0, r0⟩ := trodAll_cons hA
  obtain ⟨v1, vs1, d1, ds1, p1, q1, rfl, rfl, rfl, h1, r1⟩ := trodAll_cons r0
  obtain ⟨v2, vs2, d2, ds2, p2, q2, rfl, rfl, rfl, h2, r2⟩ := trodAll_cons r1
  obtain ⟨rfl, rfl, rfl⟩ := trodAll_nil r2
  obtain rfl : args = #[v0, v1, v2] := by cases args; simp_all
  obtain ⟨rfl, rfl⟩ := trodVars_none hV
  have lt0 : ∀ x ∈ p0, x.block < W.heap.size := by obtain ⟨m, hm⟩ := h0; exact DataW.trod_lt m _ _ _ hm
  have a0 := Eng.argv_of (hval 0 3 v0 rfl rfl) h0
  have lt1 : ∀ x ∈ p1, x.block < W.heap.size := by obtain ⟨m, hm⟩ := h1; exact DataW.trod_lt m _ _ _ hm
  have a1 := Eng.argv_of (hval 1 3 v1 rfl rfl) h1
  have lt2 : ∀ x ∈ p2, x.block < W.heap.size := by obtain ⟨m, hm⟩ := h2; exact DataW.trod_lt m _ _ _ hm
  have a2 := Eng.argv_of (hval 2 22 v2 rfl rfl) h2
  clear hA0 hval0
  refine Calls.mono (ops_walk W v0 a0 v1 a1 v2 a2) fun e W' ⟨v, he, hv, hm⟩ => ?_
  subst he
  subst hv
  have bel := hm.below
  exact ⟨_, rfl, _, _, _, [], _, [], hW', trodAll_mk1 (shut_bool Try.underlying4 _), (trodAll_cons_mk (Below.trod laidOut (by kernel_rfl) (of_decide_eq_true (by kernel_rfl)) h0 bel lt0) (trodAll_cons_mk (Below.trod laidOut (by kernel_rfl) (of_decide_eq_true (by kernel_rfl)) h1 bel lt1) (trodAll_cons_mk (Below.trod laidOut (by kernel_rfl) (of_decide_eq_true (by kernel_rfl)) h2 bel lt2) trodAll_mk0))), rfl, bel.frame _, fun h => by cases h⟩

theorem over : Rows.backlogOperationsRow.holds Try.pinned (OpenSpec.ofChange Rows.backlogOperationsSpec) :=
  OpenClaim.holds_of_wide 6 Try.f6 rfl rfl rfl rfl rfl rfl rfl ⟨rfl, rfl, rfl, rfl, rfl⟩ rfl rfl rfl rfl rfl (by kernel_rfl) Try.func6 (by kernel_rfl)
    (of_decide_eq_true (by kernel_rfl)) (by unfold Func.isWrapper; first | (rw [if_pos (by decide +kernel)]; kernel_rfl) | (rw [if_neg (by decide +kernel)]; exact ⟨rfl, rfl⟩))
    (fun os started H enc _ => lifted os started H enc)
end backlogOperations
/-- the statement -/
theorem backlogOperations_holds : Rows.BacklogOperationsSaid := backlogOperations.over
#print axioms backlogOperations_holds
end Go.Proofs.Ytoidpcmcbmioiaa
