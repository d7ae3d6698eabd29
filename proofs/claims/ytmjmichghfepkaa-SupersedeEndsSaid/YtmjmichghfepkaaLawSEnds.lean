/-
  SupersedeEnds returns true for every input. No condition.
-/
import Derived.Test.YtmjmichghfepkaaRows
import Derived.Test.YtmjmichghfepkaaSupK
namespace Go.Proofs.Ytmjmichghfepkaa
open Go.Eng Go.RowKit Go.Sort

theorem ends_walk (w : World) (v0 : Value) (a0 : ArgV Try.prog w 22 v0) : Ret Try.prog 4 #[v0] w fun r w' => r = .bool true ∧ Mod [] w w' := by
  obtain ⟨ad, cap, L, rfl, hc, hcm, hr⟩ := argv_rs a0
  unfold maxLen at hcm
  have hs := Sat.start w
  have hrf := hr.first (i := min L.length 24) (by omega)
  have hlt : L.take (min L.length 24) = L.take 24 := by
    rcases Nat.le_total L.length 24 with h | h
    · rw [Nat.min_eq_left h, List.take_of_length_le (by omega), List.take_of_length_le (by omega)]
    · rw [Nat.min_eq_right h]
  rw [hlt] at hrf
  have hl24 : (L.take 24).length = min L.length 24 := by rw [List.length_take]; omega
  refine Ret.enter (n := 75) (args := [.slice ad L.length cap]) Try.func4 rfl rfl ?_
  refine C.keep [(0, _)] ⟨rfl, trivial⟩ ?_
  refine C.seq ?_
  refine C.region ?_
  refine R.ev rfl (E.assign rfl) ?_
  refine R.done ?_
  refine X.keep [(0, _)] ⟨rfl, trivial⟩ ?_
  refine X.next ?_
  refine C.seq ?_
  refine C.region ?_
  refine R.ev rfl (E.move rfl) ?_
  refine R.call ⟨_, _, Try.func13, rfl, by kernel_rfl⟩ rfl rfl (rows_any (L := L) hs (by omega)) ?_
  rintro _ w1 ⟨K1, v1, F1, A, rfl, hk1, r1, hA, hG, hs⟩
  have o1 : OneC v1 := ⟨RowL.oneC⟩
  have hAl : A.length = min L.length 24 := by have := congrArg List.length hA; rw [List.length_map] at this; omega
  generalize hL0 : L.take 24 = L0 at hrf hl24 hA
  refine R.ev rfl (E.move rfl) ?_
  refine R.ev rfl (E.extract rfl rfl) ?_
  refine R.ev rfl (E.extract rfl rfl) ?_
  refine R.ev rfl (E.assign rfl) ?_
  refine R.ev rfl (E.assign rfl) ?_
  refine R.done ?_
  refine X.keep [(3, _), (4, _)] ⟨rfl, rfl, trivial⟩ ?_
  refine X.next ?_
  refine C.seq ?_
  refine C.region ?_
  refine R.ev rfl (E.move rfl) ?_
  refine R.call ⟨_, _, Try.func22, rfl, by kernel_rfl⟩ rfl rfl (ends_any (A := A) hs hG (by omega)) ?_
  rw [hA]
  rintro _ w2 ⟨v2, I2, F2, rfl, r2, h2, h2', hs⟩
  obtain ⟨ad2, cap2, rfl, _⟩ := r2.val
  refine R.ev rfl (E.move rfl) ?_
  refine R.ev rfl (E.extract rfl rfl) ?_
  refine R.ev rfl (E.extract rfl rfl) ?_
  refine R.ev rfl (E.assign rfl) ?_
  refine R.ev rfl (E.assign rfl) ?_
  refine R.done ?_
  refine X.keep [(3, _), (4, _), (5, _), (6, _)] ⟨rfl, rfl, rfl, rfl, trivial⟩ ?_
  refine X.next ?_
  refine C.seq ?_
  refine C.region ?_
  refine R.ev rfl (E.move rfl) ?_
  refine R.call ⟨_, _, Try.func23, rfl, by kernel_rfl⟩ rfl rfl (withd_any (A := A) hs hG (by omega)) ?_
  rw [hA]
  rintro _ w3 ⟨v3, I3, F3, rfl, r3, h3, h3', hs⟩
  obtain ⟨ad3, cap3, rfl, _⟩ := r3.val
  refine R.ev rfl (E.move rfl) ?_
  refine R.ev rfl (E.extract rfl rfl) ?_
  refine R.ev rfl (E.extract rfl rfl) ?_
  refine R.ev rfl (E.assign rfl) ?_
  refine R.ev rfl (E.assign rfl) ?_
  refine R.done ?_
  refine X.keep [(4, _), (5, _), (6, _), (7, _), (8, _)] ⟨rfl, rfl, rfl, rfl, rfl, trivial⟩ ?_
  refine X.next ?_
  refine C.seq ?_
  refine C.region ?_
  refine R.ev rfl (E.move rfl) ?_
  refine R.call ⟨_, _, Try.func15, rfl, by kernel_rfl⟩ rfl rfl (rcheck_any (L := L0) hs (by omega)) ?_
  rintro _ w4 ⟨rfl, hs⟩
  refine R.ev rfl (E.move rfl) ?_
  refine R.ev rfl (E.extract rfl rfl) ?_
  refine R.ev rfl (E.extract rfl rfl) ?_
  refine R.ev rfl (E.assign rfl) ?_
  refine R.ev rfl (E.assign rfl) ?_
  refine R.done ?_
  refine X.keep [(4, _), (5, _), (6, _), (7, _), (8, _), (10, _)] ⟨rfl, rfl, rfl, rfl, rfl, rfl, trivial⟩ ?_
  refine X.next ?_
  refine C.seq ?_
  refine C.seq ?_
  refine C.region ?_
  refine R.ev rfl (E.move rfl) ?_
  refine R.ev rfl (E.move rfl) ?_
  refine R.ev rfl ((E.neq rfl rfl).isF (fun h => h rfl)) ?_
  refine R.ev rfl (E.move rfl) ?_
  refine R.gyes rfl rfl ?_
  refine R.ev rfl (E.move rfl) ?_
  refine R.gyes rfl rfl ?_
  refine R.ev rfl (E.move rfl) ?_
  refine R.gyes rfl rfl ?_
  refine R.ev rfl ((E.neq rfl rfl).isF (fun h => h rfl)) ?_
  refine R.ev rfl (E.pickF rfl rfl) ?_
  refine R.done ?_
  refine X.keep [(4, _), (5, _), (7, _), (10, _), (38, _)] ⟨rfl, rfl, rfl, rfl, rfl, trivial⟩ ?_
  refine X.next ?_
  refine C.cfalse rfl ?_
  refine C.skip ?_
  refine X.next ?_
  refine C.seq ?_
  refine C.seq ?_
  refine C.region ?_
  refine R.ev rfl (E.move rfl) ?_
  refine R.ev rfl (E.neq rfl rfl) ?_
  refine R.done ?_
  refine X.keep [(4, _), (5, _), (7, _), (40, _)] ⟨rfl, rfl, rfl, rfl, trivial⟩ ?_
  refine X.next ?_
  refine C.cdec rfl (fun h40 => ?_) (fun h40 => ?_)
  · refine C.seq ?_
    refine C.region ?_
    refine R.call ⟨_, _, Try.func16, rfl, by kernel_rfl⟩ rfl rfl (known_any hs) ?_
    rintro _ w8 ⟨rfl, hs⟩
    refine R.ev rfl (E.move rfl) ?_
    refine R.gyes rfl rfl ?_
    refine R.ev rfl (E.move rfl) ?_
    refine R.gyes rfl rfl ?_
    refine R.ev rfl (E.lenSl rfl Try.underlying40) ?_
    refine R.gyes rfl rfl ?_
    refine R.ev rfl ((E.eql rfl rfl).isT (by rw [h2 h40]; rfl)) ?_
    refine R.ev rfl (E.pickT rfl rfl) ?_
    refine R.ev rfl (E.move rfl) ?_
    refine R.gyes rfl rfl ?_
    refine R.ev rfl (E.move rfl) ?_
    refine R.gyes rfl rfl ?_
    refine R.ev rfl (E.lenSl rfl Try.underlying40) ?_
    refine R.gyes rfl rfl ?_
    refine R.ev rfl ((E.eql rfl rfl).isT (by rw [h3 h40]; rfl)) ?_
    refine R.ev rfl (E.pickT rfl rfl) ?_
    refine R.ev rfl (E.assign rfl) ?_
    refine R.done ?_
    refine X.keep [(2, _)] ⟨rfl, trivial⟩ ?_
    refine X.next ?_
    refine C.ret ?_
    refine X.thenRet ?_
    refine X.ret1 rfl rfl ?_
    exact ⟨rfl, (hs.less hk1.le).mod⟩
  · refine C.skip ?_
    refine X.next ?_
    refine C.seq ?_
    refine C.region ?_
    have h40 : (chk L0).2 = 0 := Decidable.not_not.1 h40
    obtain ⟨s2, p2⟩ := h2' h40
    obtain ⟨s3, p3⟩ := h3' h40
    have hnd := (chk_ok.1 h40).2
    have hlen : I2.length + I3.length = L0.length := by rw [p2.length_eq, p3.length_eq]; exact chosen_len
    refine R.call ⟨_, _, Try.func16, rfl, by kernel_rfl⟩ rfl rfl (known_any hs) ?_
    rintro _ w9 ⟨rfl, hs⟩
    refine R.ev rfl (E.move rfl) ?_
    refine R.gyes rfl rfl ?_
    refine R.ev rfl (E.move rfl) ?_
    refine R.gyes rfl rfl ?_
    refine R.ev rfl (E.move rfl) ?_
    refine R.gyes rfl rfl ?_
    refine R.call ⟨_, _, Try.func25, rfl, by kernel_rfl⟩ rfl rfl (rids_any (L := L0) true hnd hs (by omega)) ?_
    rintro v94 w94 ⟨K4, I4, hk4, r4, s4, m4, hs⟩
    have o4 : OneC v94 := ⟨KRow.oneC' r4⟩
    obtain rfl : I2 = I4 := ss_ext ltV_swo s2 s4 fun a => by rw [p2.mem_iff, m4]; rfl
    refine R.gyes rfl rfl ?_
    refine R.call ⟨_, _, Try.func24, rfl, by kernel_rfl⟩ rfl rfl (same_any (L := I2) (M := I2) hs (by omega)) ?_
    rintro _ w95 ⟨rfl, hs⟩
    rw [decide_eq_true rfl]
    refine R.ev rfl (E.pickT rfl rfl) ?_
    refine R.ev rfl (E.move rfl) ?_
    refine R.gyes rfl rfl ?_
    refine R.ev rfl (E.move rfl) ?_
    refine R.gyes rfl rfl ?_
    refine R.ev rfl (E.move rfl) ?_
    refine R.gyes rfl rfl ?_
    refine R.call ⟨_, _, Try.func25, rfl, by kernel_rfl⟩ rfl rfl (rids_any (L := L0) false hnd hs (by omega)) ?_
    rintro v910 w910 ⟨K5, I5, hk5, r5, s5, m5, hs⟩
    have o5 : OneC v910 := ⟨KRow.oneC' r5⟩
    obtain rfl : I3 = I5 := ss_ext ltV_swo s3 s5 fun a => by rw [p3.mem_iff, m5]; rfl
    refine R.gyes rfl rfl ?_
    refine R.call ⟨_, _, Try.func24, rfl, by kernel_rfl⟩ rfl rfl (same_any (L := I3) (M := I3) hs (by omega)) ?_
    rintro _ w911 ⟨rfl, hs⟩
    rw [decide_eq_true rfl]
    refine R.ev rfl (E.pickT rfl rfl) ?_
    refine R.ev rfl (E.move rfl) ?_
    refine R.gyes rfl rfl ?_
    refine R.ev rfl (E.move rfl) ?_
    refine R.gyes rfl rfl ?_
    refine R.ev rfl (E.lenSl rfl Try.underlying40) ?_
    refine R.gyes rfl rfl ?_
    refine R.ev rfl (E.move rfl) ?_
    refine R.gyes rfl rfl ?_
    refine R.ev rfl (E.lenSl rfl Try.underlying40) ?_
    refine R.gyes rfl rfl ?_
    refine R.ev rfl (E.add rfl rfl (by omega) (by omega)) ?_
    refine R.gyes rfl rfl ?_
    refine R.ev rfl (E.move rfl) ?_
    refine R.gyes rfl rfl ?_
    refine R.ev rfl (E.lenSl rfl Try.underlying22) ?_
    refine R.gyes rfl rfl ?_
    refine R.ev rfl ((E.eql rfl rfl).isT (by omega)) ?_
    refine R.ev rfl (E.pickT rfl rfl) ?_
    refine R.ev rfl (E.assign rfl) ?_
    refine R.done ?_
    refine X.keep [(2, _)] ⟨rfl, trivial⟩ ?_
    refine X.next ?_
    refine C.ret ?_
    refine X.ret1 rfl rfl ?_
    exact ⟨rfl, (hs.less ((hk1.trans hk4).trans hk5).le).mod⟩

namespace supersedeEnds
open Go.ChangeShapes Go.WideShapes Go.ChangeAt Go.RowKit
open Go.ChangeMaps (open_string shut_string)
set_option linter.unusedVariables false

theorem own : ownKnob Try.prog.godebug = none := by kernel_rfl
theorem laidOut : laidOutB Try.prog = true := by kernel_rfl
set_option maxRecDepth 100000 in
theorem lifted (os : Os) (started : os.Started) (H : Type) (enc : TypeId × Value → H) :
    ReturnsInHanded {} Try.checked os 4 .any (Rows.supersedeEndsSpec.pre6 enc Try.prog Try.f4 Rows.supersedeEndsRow.domain false) (Rows.supersedeEndsSpec.post enc Try.prog Try.f4 false true false false) := by
  refine returnsInHanded_of_change (C := Try.checked) own started (by kernel_rfl) Try.func4
    (ChangeSpec.witness6 (enc := enc) (C := Try.checked) false ⟨#[], #[.slice none 0 0], []⟩ 8 (by kernel_rfl) (by kernel_rfl) (by kernel_rfl) (by kernel_rfl)) ?_
  intro W base args ds gs before hval0 hW hcnd _
  have hval : ∀ (j : Nat) t v, Try.f4.params[j]? = some t → args[j]? = some v → Value.okWide Try.prog W .any base t v := hval0
  have hW' := hW
  obtain ⟨p, q, hA0, hV, rfl, hfz, hnd⟩ := hW
  have hA : DataW.TrodAll enc Try.prog W 0 (fun _ => true) true Try.f4.params.toList args.toList ds p := hA0
  rw [Try.params4] at hA hval
  obtain ⟨v0, vs0, d0, ds0, p0, q0, hargs, rfl, rfl, h0, r0⟩ := trodAll_cons hA
  obtain ⟨rfl, rfl, rfl⟩ := trodAll_nil r0
  obtain rfl : args = #[v0] := by cases args; simp_all
  obtain ⟨rfl, rfl⟩ := trodVars_none hV
  have lt0 : ∀ x ∈ p0, x.block < W.heap.size := by obtain ⟨m, hm⟩ := h0; exact DataW.trod_lt m _ _ _ hm
  have a0 := Eng.argv_of (hval 0 22 v0 rfl rfl) h0
  clear hA0 hval0
  refine Calls.mono (ends_walk W v0 a0) fun e W' ⟨v, he, hv, hm⟩ => ?_
  subst he
  subst hv
  have bel := hm.below
  exact ⟨_, rfl, _, _, _, [], _, [], hW', trodAll_mk1 (shut_bool Try.underlying4 _), (trodAll_cons_mk (Below.trod laidOut (by kernel_rfl) (of_decide_eq_true (by kernel_rfl)) h0 bel lt0) trodAll_mk0), rfl, bel.frame _, fun h => by cases h⟩

theorem over : Rows.supersedeEndsRow.holds Try.pinned (OpenSpec.ofChange Rows.supersedeEndsSpec) :=
  OpenClaim.holds_of_wide 4 Try.f4 rfl rfl rfl rfl rfl rfl rfl ⟨rfl, rfl, rfl, rfl, rfl⟩ rfl rfl rfl rfl rfl (by kernel_rfl) Try.func4 (by kernel_rfl)
    (of_decide_eq_true (by kernel_rfl)) (by unfold Func.isWrapper; first | (rw [if_pos (by decide +kernel)]; kernel_rfl) | (rw [if_neg (by decide +kernel)]; exact ⟨rfl, rfl⟩))
    (fun os started H enc _ => lifted os started H enc)
end supersedeEnds
/-- the statement -/
theorem supersedeEnds_holds : Rows.SupersedeEndsSaid := supersedeEnds.over
#print axioms supersedeEnds_holds
end Go.Proofs.Ytmjmichghfepkaa
