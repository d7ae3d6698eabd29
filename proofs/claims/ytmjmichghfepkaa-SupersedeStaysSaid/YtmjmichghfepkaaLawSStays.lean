/-
  SupersedeStays returns true for every input. No condition.
-/
import Derived.Test.YtmjmichghfepkaaRows
import Derived.Test.YtmjmichghfepkaaSupT
namespace Go.Proofs.Ytmjmichghfepkaa
open Go.Eng Go.RowKit Go.Sort

theorem wdId_some {L : List RR} {a : Vec 32} (h : wdId L a = true) : ∃ x ∈ L, x.id = a ∧ wd L x = true := by
  unfold wdId at h
  split at h
  · cases h
  · rename_i x hx
    have h0 : rIs a x = true := List.find?_some hx
    exact ⟨x, List.mem_of_find?_eq_some hx, of_decide_eq_true h0, h⟩
theorem stays {L : List RR} {x : RR} {a : Vec 32} (hn : ((rAddL L x).map RR.id).Nodup) (h : wdId L a = true) : wdId (rAddL L x) a = true := by
  obtain ⟨y, hy, hya, hw⟩ := wdId_some h
  have hsub : ∀ z ∈ L, z ∈ rAddL L x := fun z hz => by unfold rAddL; split <;> simp [hz]
  rw [wdId, findR hn (hsub y hy) hya]
  obtain ⟨z, hz, hzz⟩ := wd_iff.1 hw
  exact wd_iff.2 ⟨z, hsub z hz, hzz⟩
theorem stays_walk (w : World) (v0 : Value) (a0 : ArgV Try.prog w 58 v0) (v1 : Value) (a1 : ArgV Try.prog w 26 v1) (v2 : Value) (a2 : ArgV Try.prog w 23 v2) : Ret Try.prog 8 #[v0, v1, v2] w fun r w' => r = .bool true ∧ Mod [] w w' := by
  obtain ⟨ad, cap, ops, rfl, hc, hcm, hr⟩ := argv_o a0
  obtain ⟨x, rfl⟩ := argv_r a1
  obtain ⟨a, rfl⟩ := argv_vec a2 Try.underlying23 Try.underlying5 (by kernel_rfl) (by kernel_rfl)
  unfold maxLen at hcm
  have e1 := encV_len a
  have hs := Sat.start w
  refine Ret.enter (n := 35) (args := [.slice ad ops.length cap, .agg (encR x).toArray, idV a.1]) Try.func8 rfl rfl ?_
  refine C.keep [(0, _), (1, _), (2, _)] ⟨rfl, rfl, rfl, trivial⟩ ?_
  refine C.seq ?_
  refine C.region ?_
  refine R.sboxA hs rfl rfl ?_
  intro b4 w4 hs
  refine R.sboxA hs rfl rfl ?_
  intro b5 w5 hs
  refine R.ev rfl (E.assign rfl) ?_
  refine R.done ?_
  refine X.keep [(0, _), (4, _), (5, _)] ⟨rfl, rfl, rfl, trivial⟩ ?_
  refine X.next ?_
  refine C.seq ?_
  refine C.seq ?_
  refine C.region ?_
  refine R.call ⟨_, _, Try.func16, rfl, by kernel_rfl⟩ rfl rfl (known_any hs) ?_
  rintro _ w1 ⟨rfl, hs⟩
  refine R.ev rfl (E.notT rfl) ?_
  refine R.done ?_
  refine X.keep [(0, _), (4, _), (5, _), (12, _)] ⟨rfl, rfl, rfl, rfl, trivial⟩ ?_
  refine X.next ?_
  refine C.cfalse rfl ?_
  refine C.skip ?_
  refine X.next ?_
  refine C.seq ?_
  refine C.region ?_
  refine R.ev rfl (E.move rfl) ?_
  refine R.call ⟨_, _, Try.func28, rfl, by kernel_rfl⟩ rfl rfl (play_any hs (by omega)) ?_
  rintro _ w3 ⟨K3, p, M, L, v3, F3, rfl, hk3, hr3, hI, hG, hL, hw3, hs⟩
  have o3 : OneC v3 := ⟨KRow.oneC' hr3⟩
  refine R.ev rfl (E.move rfl) ?_
  refine R.ev rfl (E.extract rfl rfl) ?_
  refine R.ev rfl (E.extract rfl rfl) ?_
  refine R.ev rfl (E.extract rfl rfl) ?_
  refine R.ev rfl (E.assign rfl) ?_
  refine R.ev rfl (E.assign rfl) ?_
  refine R.ev rfl (E.assign rfl) ?_
  refine R.done ?_
  refine X.keep [(4, _), (5, _), (7, _), (9, _)] ⟨rfl, rfl, rfl, rfl, trivial⟩ ?_
  refine X.next ?_
  refine C.seq ?_
  refine C.seq ?_
  refine C.region ?_
  refine R.ev rfl (E.move rfl) ?_
  refine R.ev rfl (E.notT rfl) ?_
  refine R.done ?_
  refine X.keep [(4, _), (5, _), (7, _), (20, _)] ⟨rfl, rfl, rfl, rfl, trivial⟩ ?_
  refine X.next ?_
  refine C.cfalse rfl ?_
  refine C.skip ?_
  refine X.next ?_
  refine C.seq ?_
  refine C.region ?_
  refine R.ev rfl (E.move rfl) ?_
  refine R.ev rfl (E.loadRowC rfl Try.underlying23 rfl Try.sz23 (by first | exact ⟨hs.ldA, by first | rfl | assumption | exact encV_len _ | exact Enc.len _ | exact len_ub (by assumption)⟩ | exact ⟨hs.ldP rfl, by first | rfl | assumption | exact encV_len _ | exact Enc.len _ | exact len_ub (by assumption)⟩ | exact ⟨hs.ldM rfl rfl, by first | rfl | assumption | exact encV_len _ | exact Enc.len _ | exact len_ub (by assumption)⟩ | exact ⟨hs.ldM (by assumption) (by first | rfl | assumption), by first | rfl | assumption | exact encV_len _ | exact Enc.len _ | exact len_ub (by assumption)⟩ | exact ⟨by assumption, by first | rfl | assumption | exact encV_len _ | exact Enc.len _ | exact len_ub (by assumption)⟩ | exact hs.ldp | exact At.partC (by assumption))) ?_
  refine R.call ⟨_, _, Try.func27, rfl, by kernel_rfl⟩ rfl rfl (isWd_any a hI hG hs) ?_
  rintro _ w6 ⟨rfl, hs⟩
  refine R.ev rfl (E.assign rfl) ?_
  refine R.done ?_
  refine X.keep [(4, _), (5, _), (7, _), (10, _)] ⟨rfl, rfl, rfl, rfl, trivial⟩ ?_
  refine X.next ?_
  refine C.seq ?_
  refine C.region ?_
  refine R.ev rfl (E.move rfl) ?_
  refine R.ev rfl (E.loadRowC rfl Try.underlying26 rfl Try.sz26 (by first | exact ⟨hs.ldA, by first | rfl | assumption | exact encV_len _ | exact Enc.len _ | exact len_ub (by assumption)⟩ | exact ⟨hs.ldP rfl, by first | rfl | assumption | exact encV_len _ | exact Enc.len _ | exact len_ub (by assumption)⟩ | exact ⟨hs.ldM rfl rfl, by first | rfl | assumption | exact encV_len _ | exact Enc.len _ | exact len_ub (by assumption)⟩ | exact ⟨hs.ldM (by assumption) (by first | rfl | assumption), by first | rfl | assumption | exact encV_len _ | exact Enc.len _ | exact len_ub (by assumption)⟩ | exact ⟨by assumption, by first | rfl | assumption | exact encV_len _ | exact Enc.len _ | exact len_ub (by assumption)⟩ | exact hs.ldp | exact At.partC (by assumption))) ?_
  refine R.call ⟨_, _, Try.func18, rfl, by kernel_rfl⟩ rfl rfl (to_any x hs) ?_
  rintro _ w72 ⟨K7, z, rfl, hz, hk7, hgz, hs⟩
  refine R.call ⟨_, _, Try.func29, rfl, by kernel_rfl⟩ rfl rfl (add_any hgz hI (hG.mono hk7) (hs.front (F := F3))) ?_
  rw [hz]
  rintro _ w73 ⟨rfl, K8, M8, F8, hk8, hI8, hG8, hw8, hs1⟩
  have hs := hs.back (F := F3) hs1
  refine R.done ?_
  refine X.keep [(5, _), (7, _), (10, _)] ⟨rfl, rfl, rfl, trivial⟩ ?_
  refine X.next ?_
  refine C.seq ?_
  refine C.region ?_
  refine R.ev rfl (E.move rfl) ?_
  refine R.ev rfl ((E.not rfl).isB (c := !(wdId L a)) rfl) ?_
  refine R.ev rfl (E.move rfl) ?_
  refine R.split 30 rfl (fun h30 => ?_) (fun h30 => ?_)
  · refine R.gskip rfl rfl rfl ?_
    refine R.gskip rfl rfl rfl ?_
    refine R.gskip rfl rfl rfl ?_
    refine R.ev rfl (E.pickT rfl rfl) ?_
    refine R.ev rfl (E.assign rfl) ?_
    refine R.done ?_
    refine X.keep [(6, _)] ⟨rfl, trivial⟩ ?_
    refine X.next ?_
    refine C.ret ?_
    refine X.ret1 rfl rfl ?_
    exact ⟨rfl, (hs.less ((hk3.trans hk7).trans hk8).le).mod⟩
  · refine R.gyes rfl rfl ?_
    refine R.ev rfl (E.move rfl) ?_
    refine R.gyes rfl rfl ?_
    refine R.ev rfl (E.loadRowC rfl Try.underlying23 rfl Try.sz23 (by first | exact ⟨hs.ldA, by first | rfl | assumption | exact encV_len _ | exact Enc.len _ | exact len_ub (by assumption)⟩ | exact ⟨hs.ldP rfl, by first | rfl | assumption | exact encV_len _ | exact Enc.len _ | exact len_ub (by assumption)⟩ | exact ⟨hs.ldM rfl rfl, by first | rfl | assumption | exact encV_len _ | exact Enc.len _ | exact len_ub (by assumption)⟩ | exact ⟨hs.ldM (by assumption) (by first | rfl | assumption), by first | rfl | assumption | exact encV_len _ | exact Enc.len _ | exact len_ub (by assumption)⟩ | exact ⟨by assumption, by first | rfl | assumption | exact encV_len _ | exact Enc.len _ | exact len_ub (by assumption)⟩ | exact hs.ldp | exact At.partC (by assumption))) ?_
    refine R.gyes rfl rfl ?_
    refine R.call ⟨_, _, Try.func27, rfl, by kernel_rfl⟩ rfl rfl (isWd_any a hI8 hG8 hs) ?_
    rintro _ w85 ⟨rfl, hs⟩
    rw [stays hI8.nd (by simpa using h30)]
    refine R.ev rfl (E.pickF rfl rfl) ?_
    refine R.ev rfl (E.assign rfl) ?_
    refine R.done ?_
    refine X.keep [(6, _)] ⟨rfl, trivial⟩ ?_
    refine X.next ?_
    refine C.ret ?_
    refine X.ret1 rfl rfl ?_
    exact ⟨rfl, (hs.less ((hk3.trans hk7).trans hk8).le).mod⟩

namespace supersedeStays
open Go.ChangeShapes Go.WideShapes Go.ChangeAt Go.RowKit
open Go.ChangeMaps (open_string shut_string)
set_option linter.unusedVariables false

theorem own : ownKnob Try.prog.godebug = none := by kernel_rfl
theorem laidOut : laidOutB Try.prog = true := by kernel_rfl
set_option maxRecDepth 100000 in
theorem lifted (os : Os) (started : os.Started) (H : Type) (enc : TypeId × Value → H) :
    ReturnsInHanded {} Try.checked os 8 .any (Rows.supersedeStaysSpec.pre6 enc Try.prog Try.f8 Rows.supersedeStaysRow.domain false) (Rows.supersedeStaysSpec.post enc Try.prog Try.f8 false true false false) := by
  refine returnsInHanded_of_change (C := Try.checked) own started (by kernel_rfl) Try.func8
    (ChangeSpec.witness6 (enc := enc) (C := Try.checked) false ⟨#[], #[.slice none 0 0, .agg #[.int .u8 0, .int .u8 0, .int .u8 0, .int .u8 0, .int .u8 0, .int .u8 0, .int .u8 0, .int .u8 0, .int .u8 0, .int .u8 0, .int .u8 0, .int .u8 0, .int .u8 0, .int .u8 0, .int .u8 0, .int .u8 0, .int .u8 0, .int .u8 0, .int .u8 0, .int .u8 0, .int .u8 0, .int .u8 0, .int .u8 0, .int .u8 0, .int .u8 0, .int .u8 0, .int .u8 0, .int .u8 0, .int .u8 0, .int .u8 0, .int .u8 0, .int .u8 0, .int .u8 0, .int .u8 0, .int .u8 0, .int .u8 0, .int .u8 0, .int .u8 0, .int .u8 0, .int .u8 0, .int .u8 0, .int .u8 0, .int .u8 0, .int .u8 0, .int .u8 0, .int .u8 0, .int .u8 0, .int .u8 0, .int .i64 0, .int .u8 0, .int .u8 0, .int .u8 0, .int .u8 0, .int .u8 0, .int .u8 0, .int .u8 0, .int .u8 0, .int .u8 0, .int .u8 0, .int .u8 0, .int .u8 0, .int .u8 0, .int .u8 0, .int .u8 0, .int .u8 0, .int .u8 0, .int .u8 0, .int .u8 0, .int .u8 0, .int .u8 0, .int .u8 0, .int .u8 0, .int .u8 0, .int .u8 0, .int .u8 0, .int .u8 0, .int .u8 0, .int .u8 0, .int .u8 0, .int .u8 0, .int .u8 0, .int .u8 0], .agg #[.int .u8 0, .int .u8 0, .int .u8 0, .int .u8 0, .int .u8 0, .int .u8 0, .int .u8 0, .int .u8 0, .int .u8 0, .int .u8 0, .int .u8 0, .int .u8 0, .int .u8 0, .int .u8 0, .int .u8 0, .int .u8 0, .int .u8 0, .int .u8 0, .int .u8 0, .int .u8 0, .int .u8 0, .int .u8 0, .int .u8 0, .int .u8 0, .int .u8 0, .int .u8 0, .int .u8 0, .int .u8 0, .int .u8 0, .int .u8 0, .int .u8 0, .int .u8 0]], []⟩ 8 (by kernel_rfl) (by kernel_rfl) (by kernel_rfl) (by kernel_rfl)) ?_
  intro W base args ds gs before hval0 hW hcnd _
  have hval : ∀ (j : Nat) t v, Try.f8.params[j]? = some t → args[j]? = some v → Value.okWide Try.prog W .any base t v := hval0
  have hW' := hW
  obtain ⟨p, q, hA0, hV, rfl, hfz, hnd⟩ := hW
  have hA : DataW.TrodAll enc Try.prog W 0 (fun _ => true) true Try.f8.params.toList args.toList ds p := hA0
  rw [Try.params8] at hA hval
  obtain ⟨v0, vs0, d0, ds0, p0, q0, hargs, rfl, rfl, h0, r0⟩ := trodAll_cons hA
  obtain ⟨v1, vs1, d1, ds1, p1, q1, rfl, rfl, rfl, h1, r1⟩ := trodAll_cons r0
  obtain ⟨v2, vs2, d2, ds2, p2, q2, rfl, rfl, rfl, h2, r2⟩ := trodAll_cons r1
  obtain ⟨rfl, rfl, rfl⟩ := trodAll_nil r2
  obtain rfl : args = #[v0, v1, v2] := by cases args; simp_all
  obtain ⟨rfl, rfl⟩ := trodVars_none hV
  have lt0 : ∀ x ∈ p0, x.block < W.heap.size := by obtain ⟨m, hm⟩ := h0; exact DataW.trod_lt m _ _ _ hm
  have a0 := Eng.argv_of (hval 0 58 v0 rfl rfl) h0
  have lt1 : ∀ x ∈ p1, x.block < W.heap.size := by obtain ⟨m, hm⟩ := h1; exact DataW.trod_lt m _ _ _ hm
  have a1 := Eng.argv_of (hval 1 26 v1 rfl rfl) h1
  have lt2 : ∀ x ∈ p2, x.block < W.heap.size := by obtain ⟨m, hm⟩ := h2; exact DataW.trod_lt m _ _ _ hm
  have a2 := Eng.argv_of (hval 2 23 v2 rfl rfl) h2
  clear hA0 hval0
  refine Calls.mono (stays_walk W v0 a0 v1 a1 v2 a2) fun e W' ⟨v, he, hv, hm⟩ => ?_
  subst he
  subst hv
  have bel := hm.below
  exact ⟨_, rfl, _, _, _, [], _, [], hW', trodAll_mk1 (shut_bool Try.underlying4 _), (trodAll_cons_mk (Below.trod laidOut (by kernel_rfl) (of_decide_eq_true (by kernel_rfl)) h0 bel lt0) (trodAll_cons_mk (Below.trod laidOut (by kernel_rfl) (of_decide_eq_true (by kernel_rfl)) h1 bel lt1) (trodAll_cons_mk (Below.trod laidOut (by kernel_rfl) (of_decide_eq_true (by kernel_rfl)) h2 bel lt2) trodAll_mk0))), rfl, bel.frame _, fun h => by cases h⟩

theorem over : Rows.supersedeStaysRow.holds Try.pinned (OpenSpec.ofChange Rows.supersedeStaysSpec) :=
  OpenClaim.holds_of_wide 8 Try.f8 rfl rfl rfl rfl rfl rfl rfl ⟨rfl, rfl, rfl, rfl, rfl⟩ rfl rfl rfl rfl rfl (by kernel_rfl) Try.func8 (by kernel_rfl)
    (of_decide_eq_true (by kernel_rfl)) (by unfold Func.isWrapper; first | (rw [if_pos (by decide +kernel)]; kernel_rfl) | (rw [if_neg (by decide +kernel)]; exact ⟨rfl, rfl⟩))
    (fun os started H enc _ => lifted os started H enc)
end supersedeStays
/-- the statement -/
theorem supersedeStays_holds : Rows.SupersedeStaysSaid := supersedeStays.over
#print axioms supersedeStays_holds
end Go.Proofs.Ytmjmichghfepkaa
