/-
  MsgidSets returns true for every input. No condition.
-/
import Derived.Test.YtkmgmdgkphckgaaRows
import Derived.Test.YtkmgmdgkphckgaaSet12
namespace Go.Proofs.Ytkmgmdgkphckgaa
open Go.Eng Go.RowKit

theorem sets_walk (w : World) (v0 : Value) (a0 : ArgV Try.prog w 45 v0) (v1 : Value) (a1 : ArgV Try.prog w 45 v1) : Ret Try.prog 11 #[v0, v1] w fun r w' => r = .bool true ∧ Mod [] w w' := by
  obtain ⟨ad, cap, A0, rfl, hc, hcm, ha⟩ := argv_ids a0
  obtain ⟨ad2, cap2, B0, rfl, hc2, hcm2, hb⟩ := argv_ids a1
  unfold maxLen at hcm hcm2
  have hs := Sat.start w
  have ha := ha.first (i := min A0.length 40) (by omega)
  have hb := hb.first (i := min B0.length 40) (by omega)
  obtain ⟨A, hA⟩ : ∃ A, A = A0.take (min A0.length 40) := ⟨_, rfl⟩
  obtain ⟨B, hB⟩ : ∃ B, B = B0.take (min B0.length 40) := ⟨_, rfl⟩
  rw [← hA] at ha
  rw [← hB] at hb
  have hla : A.length = min A0.length 40 := by rw [hA, List.length_take]; omega
  have hlb : B.length = min B0.length 40 := by rw [hB, List.length_take]; omega
  refine Ret.enter (n := 58) (args := [.slice ad A0.length cap, .slice ad2 B0.length cap2]) Try.func11 rfl rfl ?_
  refine C.keep [(0, _), (1, _)] ⟨rfl, rfl, trivial⟩ ?_
  refine C.seq ?_
  refine C.region ?_
  refine R.ev rfl (E.assign rfl) ?_
  refine R.done ?_
  refine X.keep [(0, _), (1, _)] ⟨rfl, rfl, trivial⟩ ?_
  refine X.next ?_
  refine C.seq ?_
  refine C.drawn (SatS hs) ([], [0, 1, 2, 3, 4, 5, 6, 7, 8, 9, 10, 11]) (by kernel_rfl) ?_
  have hs := hs.drew
  refine D.evP 0 rfl (by kernel_rfl) rfl (np (by kernel_rfl)) (fun _ => E.move rfl) ?_
  refine D.evP 1 rfl (by kernel_rfl) rfl (np (by kernel_rfl)) (fun _ => E.move rfl) ?_
  refine D.evP 2 rfl (by kernel_rfl) rfl (np (by kernel_rfl)) (fun _ => E.lenSl rfl Try.underlying45) ?_
  refine D.evP 3 rfl (by kernel_rfl) rfl (np (by kernel_rfl)) (fun _ => (E.min2 rfl rfl).isI (c := ((min A0.length 40 : Nat) : Int)) (by omega)) ?_
  refine D.evP 4 rfl (by kernel_rfl) rfl (np (by kernel_rfl)) (fun _ => E.sliceH rfl rfl Try.underlying45 Try.sz23 rfl (by omega)) ?_
  refine D.evP 5 rfl (by kernel_rfl) rfl (np (by kernel_rfl)) (fun _ => E.move rfl) ?_
  refine D.evP 6 rfl (by kernel_rfl) rfl (np (by kernel_rfl)) (fun _ => E.move rfl) ?_
  refine D.evP 7 rfl (by kernel_rfl) rfl (np (by kernel_rfl)) (fun _ => E.lenSl rfl Try.underlying45) ?_
  refine D.evP 8 rfl (by kernel_rfl) rfl (np (by kernel_rfl)) (fun _ => (E.min2 rfl rfl).isI (c := ((min B0.length 40 : Nat) : Int)) (by omega)) ?_
  refine D.evP 9 rfl (by kernel_rfl) rfl (np (by kernel_rfl)) (fun _ => E.sliceH rfl rfl Try.underlying45 Try.sz23 rfl (by omega)) ?_
  refine D.evP 10 rfl (by kernel_rfl) rfl (np (by kernel_rfl)) (fun _ => E.assign rfl) ?_
  refine D.evP 11 rfl (by kernel_rfl) rfl (np (by kernel_rfl)) (fun _ => E.assign rfl) ?_
  refine D.done rfl (by kernel_rfl) ?_
  refine X.keep [(0, _), (1, _)] ⟨rfl, rfl, trivial⟩ ?_
  refine X.next ?_
  refine C.seq ?_
  refine C.region ?_
  refine R.ev rfl (E.move rfl) ?_
  refine R.call ⟨_, _, Try.func25, rfl, by kernel_rfl⟩ rfl rfl (to2_any (L := A) hs (by omega)) ?_
  rintro v18 w2 ⟨F2, r2, hs⟩
  refine R.ev rfl (E.move rfl) ?_
  refine R.call ⟨_, _, Try.func25, rfl, by kernel_rfl⟩ rfl rfl (to2_any (L := B) hs (by omega)) ?_
  rintro v20 w3 ⟨F3, r3, hs⟩
  obtain ⟨ad20, cap20, rfl, _⟩ := r3.val
  refine R.ev rfl (E.assign rfl) ?_
  refine R.ev rfl (E.assign rfl) ?_
  refine R.done ?_
  refine X.keep [(0, _), (1, _), (5, _), (6, _)] ⟨rfl, rfl, rfl, rfl, trivial⟩ ?_
  refine X.next ?_
  refine C.seq ?_
  refine C.region ?_
  refine R.call ⟨_, _, Try.func15, rfl, by kernel_rfl⟩ rfl rfl (known2_any hs) ?_
  rintro _ w4 ⟨rfl, hs⟩
  refine R.ev rfl (E.move rfl) ?_
  refine R.gyes rfl rfl ?_
  refine R.ev rfl (E.move rfl) ?_
  refine R.gyes rfl rfl ?_
  refine R.call ⟨_, _, Try.func30, rfl, by kernel_rfl⟩ rfl rfl (set_any (L := A) hs (by omega)) ?_
  rintro v24 w5 ⟨L5, F5, r5, s5, m5, n5, hs⟩
  refine R.gyes rfl rfl ?_
  refine R.ev rfl (E.move rfl) ?_
  refine R.gyes rfl rfl ?_
  refine R.call ⟨_, _, Try.func32, rfl, by kernel_rfl⟩ rfl rfl (rset_any (L := A) hs (by omega)) ?_
  rintro v26 w6 ⟨L6, F6, r6, s6, m6, hs⟩
  obtain rfl : L5 = L6 := ss_ext ltV_swo s5 s6 (fun x => by rw [m5, m6])
  refine R.gyes rfl rfl ?_
  refine R.call ⟨_, _, Try.func31, rfl, by kernel_rfl⟩ rfl rfl (equal_any (L := L5) (M := L5) hs (by omega)) ?_
  rintro _ w7 ⟨h7, hs⟩
  rw [decide_eq_true rfl] at h7
  subst h7
  refine R.ev rfl (E.pickT rfl rfl) ?_
  refine R.ev rfl (E.move rfl) ?_
  refine R.gyes rfl rfl ?_
  refine R.ev rfl (E.move rfl) ?_
  refine R.gyes rfl rfl ?_
  refine R.ev rfl (E.move rfl) ?_
  refine R.gyes rfl rfl ?_
  refine R.call ⟨_, _, Try.func33, rfl, by kernel_rfl⟩ rfl rfl (union_any (A := A) (B := B) hs (by omega)) ?_
  rintro v32 w8 ⟨K8, L8, F8, k8, r8, s8, m8, n8, hs⟩
  refine R.gyes rfl rfl ?_
  refine R.ev rfl (E.move rfl) ?_
  refine R.gyes rfl rfl ?_
  refine R.call ⟨_, _, Try.func25, rfl, by kernel_rfl⟩ rfl rfl (to2_any (L := A) hs (by omega)) ?_
  rintro v34 w9 ⟨F9, r9, hs⟩
  refine R.gyes rfl rfl ?_
  refine R.ev rfl (E.move rfl) ?_
  refine R.gyes rfl rfl ?_
  refine R.cappSl hs rfl rfl Try.underlying50 Try.by30 (by rfl) rfl (by decide) (by first | omega | (simp only [List.length_append, List.length_cons, List.length_nil] at *; omega)) (by first | omega | (simp only [List.length_append, List.length_cons, List.length_nil] at *; omega)) ?_
  intro v36 w36 F36 r36 hs
  refine R.gyes rfl rfl ?_
  refine R.call ⟨_, _, Try.func32, rfl, by kernel_rfl⟩ rfl rfl (rset_any (L := A ++ B) hs (by rw [List.length_append]; omega)) ?_
  rintro v37 w10 ⟨L10, F10, r10, s10, m10, hs⟩
  obtain rfl : L8 = L10 := ss_ext ltV_swo s8 s10 (fun x => by rw [m8, m10, List.mem_append])
  refine R.gyes rfl rfl ?_
  refine R.call ⟨_, _, Try.func31, rfl, by kernel_rfl⟩ rfl rfl (equal_any (L := L8) (M := L8) hs (by omega)) ?_
  rintro _ w11 ⟨h11, hs⟩
  rw [decide_eq_true rfl] at h11
  subst h11
  refine R.ev rfl (E.pickT rfl rfl) ?_
  refine R.ev rfl (E.move rfl) ?_
  refine R.gyes rfl rfl ?_
  refine R.ev rfl (E.move rfl) ?_
  refine R.gyes rfl rfl ?_
  refine R.ev rfl (E.move rfl) ?_
  refine R.gyes rfl rfl ?_
  refine R.call ⟨_, _, Try.func34, rfl, by kernel_rfl⟩ rfl rfl (minus_any (A := A) (B := B) hs (by omega)) ?_
  rintro v43 w12 ⟨K12, L12, F12, k12, r12, s12, m12, n12, hs⟩
  refine R.gyes rfl rfl ?_
  refine R.ev rfl (E.move rfl) ?_
  refine R.gyes rfl rfl ?_
  refine R.ev rfl (E.move rfl) ?_
  refine R.gyes rfl rfl ?_
  refine R.call ⟨_, _, Try.func35, rfl, by kernel_rfl⟩ rfl rfl (rpick_any (A := A) (B := B) false hs (by omega) (by omega)) ?_
  rintro v46 w13 ⟨L13, F13, r13, s13, m13, hs⟩
  obtain rfl : L12 = L13 := ss_ext ltV_swo s12 s13 (fun x => by rw [m12, m13]; simp)
  refine R.gyes rfl rfl ?_
  refine R.call ⟨_, _, Try.func31, rfl, by kernel_rfl⟩ rfl rfl (equal_any (L := L12) (M := L12) hs (by omega)) ?_
  rintro _ w14 ⟨h14, hs⟩
  rw [decide_eq_true rfl] at h14
  subst h14
  refine R.ev rfl (E.pickT rfl rfl) ?_
  refine R.ev rfl (E.move rfl) ?_
  refine R.gyes rfl rfl ?_
  refine R.ev rfl (E.move rfl) ?_
  refine R.gyes rfl rfl ?_
  refine R.ev rfl (E.move rfl) ?_
  refine R.gyes rfl rfl ?_
  refine R.call ⟨_, _, Try.func36, rfl, by kernel_rfl⟩ rfl rfl (both_any (A := A) (B := B) hs (by omega)) ?_
  rintro v52 w15 ⟨K15, L15, F15, k15, r15, s15, m15, n15, hs⟩
  refine R.gyes rfl rfl ?_
  refine R.ev rfl (E.move rfl) ?_
  refine R.gyes rfl rfl ?_
  refine R.ev rfl (E.move rfl) ?_
  refine R.gyes rfl rfl ?_
  refine R.call ⟨_, _, Try.func35, rfl, by kernel_rfl⟩ rfl rfl (rpick_any (A := A) (B := B) true hs (by omega) (by omega)) ?_
  rintro v55 w16 ⟨L16, F16, r16, s16, m16, hs⟩
  obtain rfl : L15 = L16 := ss_ext ltV_swo s15 s16 (fun x => by rw [m15, m16]; simp)
  refine R.gyes rfl rfl ?_
  refine R.call ⟨_, _, Try.func31, rfl, by kernel_rfl⟩ rfl rfl (equal_any (L := L15) (M := L15) hs (by omega)) ?_
  rintro _ w17 ⟨h17, hs⟩
  rw [decide_eq_true rfl] at h17
  subst h17
  refine R.ev rfl (E.pickT rfl rfl) ?_
  refine R.ev rfl (E.assign rfl) ?_
  refine R.done ?_
  refine X.keep [(4, _)] ⟨rfl, trivial⟩ ?_
  refine X.next ?_
  refine C.ret ?_
  refine X.ret1 rfl rfl ?_
  exact ⟨rfl, (hs.less ((k8.trans k12).trans k15).le).mod⟩

namespace msgidSets
open Go.ChangeShapes Go.WideShapes Go.ChangeAt Go.RowKit
open Go.ChangeMaps (open_string shut_string)
set_option linter.unusedVariables false

theorem own : ownKnob Try.prog.godebug = none := by kernel_rfl
theorem laidOut : laidOutB Try.prog = true := by kernel_rfl
set_option maxRecDepth 100000 in
theorem lifted (os : Os) (started : os.Started) (H : Type) (enc : TypeId × Value → H) :
    ReturnsInHanded {} Try.checked os 11 .any (Rows.msgidSetsSpec.pre6 enc Try.prog Try.f11 Rows.msgidSetsRow.domain false) (Rows.msgidSetsSpec.post enc Try.prog Try.f11 false true false false) := by
  refine returnsInHanded_of_change (C := Try.checked) own started (by kernel_rfl) Try.func11
    (ChangeSpec.witness6 (enc := enc) (C := Try.checked) false ⟨#[], #[.slice none 0 0, .slice none 0 0], []⟩ 8 (by kernel_rfl) (by kernel_rfl) (by kernel_rfl) (by kernel_rfl)) ?_
  intro W base args ds gs before hval0 hW hcnd _
  have hval : ∀ (j : Nat) t v, Try.f11.params[j]? = some t → args[j]? = some v → Value.okWide Try.prog W .any base t v := hval0
  have hW' := hW
  obtain ⟨p, q, hA0, hV, rfl, hfz, hnd⟩ := hW
  have hA : DataW.TrodAll enc Try.prog W 0 (fun _ => true) true Try.f11.params.toList args.toList ds p := hA0
  rw [Try.params11] at hA hval
  obtain ⟨v0, vs0, d0, ds0, p0, q0, hargs, rfl, rfl, h0, r0⟩ := trodAll_cons hA
  obtain ⟨v1, vs1, d1, ds1, p1, q1, rfl, rfl, rfl, h1, r1⟩ := trodAll_cons r0
  obtain ⟨rfl, rfl, rfl⟩ := trodAll_nil r1
  obtain rfl : args = #[v0, v1] := by cases args; simp_all
  obtain ⟨rfl, rfl⟩ := trodVars_none hV
  have lt0 : ∀ x ∈ p0, x.block < W.heap.size := by obtain ⟨m, hm⟩ := h0; exact DataW.trod_lt m _ _ _ hm
  have a0 := Eng.argv_of (hval 0 45 v0 rfl rfl) h0
  have lt1 : ∀ x ∈ p1, x.block < W.heap.size := by obtain ⟨m, hm⟩ := h1; exact DataW.trod_lt m _ _ _ hm
  have a1 := Eng.argv_of (hval 1 45 v1 rfl rfl) h1
  clear hA0 hval0
  refine Calls.mono (sets_walk W v0 a0 v1 a1) fun e W' ⟨v, he, hv, hm⟩ => ?_
  subst he
  subst hv
  have bel := hm.below
  exact ⟨_, rfl, _, _, _, [], _, [], hW', trodAll_mk1 (shut_bool Try.underlying4 _), (trodAll_cons_mk (Below.trod laidOut (by kernel_rfl) (of_decide_eq_true (by kernel_rfl)) h0 bel lt0) (trodAll_cons_mk (Below.trod laidOut (by kernel_rfl) (of_decide_eq_true (by kernel_rfl)) h1 bel lt1) trodAll_mk0)), rfl, bel.frame _, fun h => by cases h⟩

theorem over : Rows.msgidSetsRow.holds Try.pinned (OpenSpec.ofChange Rows.msgidSetsSpec) :=
  OpenClaim.holds_of_wide 11 Try.f11 rfl rfl rfl rfl rfl rfl rfl ⟨rfl, rfl, rfl, rfl, rfl⟩ rfl rfl rfl rfl rfl (by kernel_rfl) Try.func11 (by kernel_rfl)
    (of_decide_eq_true (by kernel_rfl)) (by unfold Func.isWrapper; first | (rw [if_pos (by decide +kernel)]; kernel_rfl) | (rw [if_neg (by decide +kernel)]; exact ⟨rfl, rfl⟩))
    (fun os started H enc _ => lifted os started H enc)
end msgidSets
/-- the statement -/
theorem msgidSets_holds : Rows.MsgidSetsSaid := msgidSets.over
#print axioms msgidSets_holds
end Go.Proofs.Ytkmgmdgkphckgaa
