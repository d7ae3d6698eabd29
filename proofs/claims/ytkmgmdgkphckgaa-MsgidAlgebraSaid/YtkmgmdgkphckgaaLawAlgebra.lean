/-
  MsgidAlgebra returns true for every input. No condition.
-/
import Derived.Test.YtkmgmdgkphckgaaRows
import Derived.Test.YtkmgmdgkphckgaaSet12
namespace Go.Proofs.Ytkmgmdgkphckgaa
open Go.Eng Go.RowKit

theorem algebra_walk (w : World) (v0 : Value) (a0 : ArgV Try.prog w 45 v0) (v1 : Value) (a1 : ArgV Try.prog w 45 v1) (v2 : Value) (a2 : ArgV Try.prog w 45 v2) : Ret Try.prog 12 #[v0, v1, v2] w fun r w' => r = .bool true ∧ Mod [] w w' := by
  obtain ⟨ad, cap, A0, rfl, hc, hcm, ha⟩ := argv_ids a0
  obtain ⟨ad2, cap2, B0, rfl, hc2, hcm2, hb⟩ := argv_ids a1
  obtain ⟨ad3, cap3, C0, rfl, hc3, hcm3, hcc⟩ := argv_ids a2
  unfold maxLen at hcm hcm2 hcm3
  have hs := Sat.start w
  have ha := ha.first (i := min A0.length 20) (by omega)
  have hb := hb.first (i := min B0.length 20) (by omega)
  have hcc := hcc.first (i := min C0.length 20) (by omega)
  obtain ⟨A, hA⟩ : ∃ A, A = A0.take (min A0.length 20) := ⟨_, rfl⟩
  obtain ⟨B, hB⟩ : ∃ B, B = B0.take (min B0.length 20) := ⟨_, rfl⟩
  obtain ⟨D3, hC⟩ : ∃ D3, D3 = C0.take (min C0.length 20) := ⟨_, rfl⟩
  rw [← hA] at ha
  rw [← hB] at hb
  rw [← hC] at hcc
  have hla : A.length = min A0.length 20 := by rw [hA, List.length_take]; omega
  have hlb : B.length = min B0.length 20 := by rw [hB, List.length_take]; omega
  have hlc : D3.length = min C0.length 20 := by rw [hC, List.length_take]; omega
  refine Ret.enter (n := 50) (args := [.slice ad A0.length cap, .slice ad2 B0.length cap2, .slice ad3 C0.length cap3]) Try.func12 rfl rfl ?_
  refine C.keep [(0, _), (1, _), (2, _)] ⟨rfl, rfl, rfl, trivial⟩ ?_
  refine C.seq ?_
  refine C.region ?_
  refine R.ev rfl (E.assign rfl) ?_
  refine R.done ?_
  refine X.keep [(0, _), (1, _), (2, _)] ⟨rfl, rfl, rfl, trivial⟩ ?_
  refine X.next ?_
  refine C.seq ?_
  refine C.drawn (SatS hs) ([], [0, 1, 2, 3, 4, 5, 6, 7, 8, 9, 10, 11, 12, 13, 14, 15, 16, 17]) (by kernel_rfl) ?_
  have hs := hs.drew
  refine D.evP 0 rfl (by kernel_rfl) rfl (np (by kernel_rfl)) (fun _ => E.move rfl) ?_
  refine D.evP 1 rfl (by kernel_rfl) rfl (np (by kernel_rfl)) (fun _ => E.move rfl) ?_
  refine D.evP 2 rfl (by kernel_rfl) rfl (np (by kernel_rfl)) (fun _ => E.lenSl rfl Try.underlying45) ?_
  refine D.evP 3 rfl (by kernel_rfl) rfl (np (by kernel_rfl)) (fun _ => (E.min2 rfl rfl).isI (c := ((min A0.length 20 : Nat) : Int)) (by omega)) ?_
  refine D.evP 4 rfl (by kernel_rfl) rfl (np (by kernel_rfl)) (fun _ => E.sliceH rfl rfl Try.underlying45 Try.sz23 rfl (by omega)) ?_
  refine D.evP 5 rfl (by kernel_rfl) rfl (np (by kernel_rfl)) (fun _ => E.move rfl) ?_
  refine D.evP 6 rfl (by kernel_rfl) rfl (np (by kernel_rfl)) (fun _ => E.move rfl) ?_
  refine D.evP 7 rfl (by kernel_rfl) rfl (np (by kernel_rfl)) (fun _ => E.lenSl rfl Try.underlying45) ?_
  refine D.evP 8 rfl (by kernel_rfl) rfl (np (by kernel_rfl)) (fun _ => (E.min2 rfl rfl).isI (c := ((min B0.length 20 : Nat) : Int)) (by omega)) ?_
  refine D.evP 9 rfl (by kernel_rfl) rfl (np (by kernel_rfl)) (fun _ => E.sliceH rfl rfl Try.underlying45 Try.sz23 rfl (by omega)) ?_
  refine D.evP 10 rfl (by kernel_rfl) rfl (np (by kernel_rfl)) (fun _ => E.move rfl) ?_
  refine D.evP 11 rfl (by kernel_rfl) rfl (np (by kernel_rfl)) (fun _ => E.move rfl) ?_
  refine D.evP 12 rfl (by kernel_rfl) rfl (np (by kernel_rfl)) (fun _ => E.lenSl rfl Try.underlying45) ?_
  refine D.evP 13 rfl (by kernel_rfl) rfl (np (by kernel_rfl)) (fun _ => (E.min2 rfl rfl).isI (c := ((min C0.length 20 : Nat) : Int)) (by omega)) ?_
  refine D.evP 14 rfl (by kernel_rfl) rfl (np (by kernel_rfl)) (fun _ => E.sliceH rfl rfl Try.underlying45 Try.sz23 rfl (by omega)) ?_
  refine D.evP 15 rfl (by kernel_rfl) rfl (np (by kernel_rfl)) (fun _ => E.assign rfl) ?_
  refine D.evP 16 rfl (by kernel_rfl) rfl (np (by kernel_rfl)) (fun _ => E.assign rfl) ?_
  refine D.evP 17 rfl (by kernel_rfl) rfl (np (by kernel_rfl)) (fun _ => E.assign rfl) ?_
  refine D.done rfl (by kernel_rfl) ?_
  refine X.keep [(0, _), (1, _), (2, _)] ⟨rfl, rfl, rfl, trivial⟩ ?_
  refine X.next ?_
  refine C.seq ?_
  refine C.region ?_
  refine R.call ⟨_, _, Try.func15, rfl, by kernel_rfl⟩ rfl rfl (known2_any hs) ?_
  rintro _ w4 ⟨rfl, hs⟩
  refine R.ev rfl (E.move rfl) ?_
  refine R.gyes rfl rfl ?_
  refine R.ev rfl (E.move rfl) ?_
  refine R.gyes rfl rfl ?_
  refine R.ev rfl (E.move rfl) ?_
  refine R.gyes rfl rfl ?_
  refine R.ev rfl (E.move rfl) ?_
  refine R.gyes rfl rfl ?_
  refine R.call ⟨_, _, Try.func33, rfl, by kernel_rfl⟩ rfl rfl (union_any (A := B) (B := D3) hs (by omega)) ?_
  rintro v27 w5 ⟨K5, L5, F5, k5, r5, s5, m5, n5, hs⟩
  refine R.gyes rfl rfl ?_
  refine R.call ⟨_, _, Try.func34, rfl, by kernel_rfl⟩ rfl rfl (minus_any (A := A) (B := L5) hs (by omega)) ?_
  rintro v28 w6 ⟨K6, L6, F6, k6, r6, s6, m6, n6, hs⟩
  refine R.gyes rfl rfl ?_
  refine R.ev rfl (E.move rfl) ?_
  refine R.gyes rfl rfl ?_
  refine R.ev rfl (E.move rfl) ?_
  refine R.gyes rfl rfl ?_
  refine R.call ⟨_, _, Try.func34, rfl, by kernel_rfl⟩ rfl rfl (minus_any (A := A) (B := B) hs (by omega)) ?_
  rintro v31 w7 ⟨K7, L7, F7, k7, r7, s7, m7, n7, hs⟩
  refine R.gyes rfl rfl ?_
  refine R.ev rfl (E.move rfl) ?_
  refine R.gyes rfl rfl ?_
  refine R.call ⟨_, _, Try.func34, rfl, by kernel_rfl⟩ rfl rfl (minus_any (A := L7) (B := D3) hs (by omega)) ?_
  rintro v33 w8 ⟨K8, L8, F8, k8, r8, s8, m8, n8, hs⟩
  refine R.gyes rfl rfl ?_
  refine R.call ⟨_, _, Try.func25, rfl, by kernel_rfl⟩ rfl rfl (to2_any (L := L8) hs (by omega)) ?_
  rintro v34 w9 ⟨F9, r9, hs⟩
  obtain rfl : L6 = L8 := ss_ext ltV_swo s6 s8 (fun x => by simp only [m6, m8, m5, m7, not_or, and_assoc])
  refine R.gyes rfl rfl ?_
  refine R.call ⟨_, _, Try.func31, rfl, by kernel_rfl⟩ rfl rfl (equal_any (L := L6) (M := L6) hs (by omega)) ?_
  rintro _ w10 ⟨h10, hs⟩
  rw [decide_eq_true rfl] at h10
  subst h10
  refine R.ev rfl (E.pickT rfl rfl) ?_
  refine R.ev rfl (E.move rfl) ?_
  refine R.gyes rfl rfl ?_
  refine R.ev rfl (E.move rfl) ?_
  refine R.gyes rfl rfl ?_
  refine R.ev rfl (E.move rfl) ?_
  refine R.gyes rfl rfl ?_
  refine R.call ⟨_, _, Try.func36, rfl, by kernel_rfl⟩ rfl rfl (both_any (A := A) (B := B) hs (by omega)) ?_
  rintro v40 w11 ⟨K11, L11, F11, k11, r11, s11, m11, n11, hs⟩
  refine R.gyes rfl rfl ?_
  refine R.ev rfl (E.move rfl) ?_
  refine R.gyes rfl rfl ?_
  refine R.ev rfl (E.move rfl) ?_
  refine R.gyes rfl rfl ?_
  refine R.call ⟨_, _, Try.func34, rfl, by kernel_rfl⟩ rfl rfl (minus_any (A := A) (B := B) hs (by omega)) ?_
  rintro v43 w12 ⟨K12, L12, F12, k12, r12, s12, m12, n12, hs⟩
  refine R.gyes rfl rfl ?_
  refine R.call ⟨_, _, Try.func33, rfl, by kernel_rfl⟩ rfl rfl (union_any (A := L11) (B := L12) hs (by omega)) ?_
  rintro v44 w13 ⟨K13, L13, F13, k13, r13, s13, m13, n13, hs⟩
  refine R.gyes rfl rfl ?_
  refine R.ev rfl (E.move rfl) ?_
  refine R.gyes rfl rfl ?_
  refine R.call ⟨_, _, Try.func30, rfl, by kernel_rfl⟩ rfl rfl (set_any (L := A) hs (by omega)) ?_
  rintro v46 w14 ⟨L14, F14, r14, s14, m14, n14, hs⟩
  refine R.gyes rfl rfl ?_
  refine R.call ⟨_, _, Try.func25, rfl, by kernel_rfl⟩ rfl rfl (to2_any (L := L14) hs (by omega)) ?_
  rintro v47 w15 ⟨F15, r15, hs⟩
  obtain rfl : L13 = L14 := ss_ext ltV_swo s13 s14 (fun x => by simp only [m13, m14, m11, m12]; by_cases h1 : x ∈ A <;> by_cases h2 : x ∈ B <;> simp [h1, h2])
  refine R.gyes rfl rfl ?_
  refine R.call ⟨_, _, Try.func31, rfl, by kernel_rfl⟩ rfl rfl (equal_any (L := L13) (M := L13) hs (by omega)) ?_
  rintro _ w16 ⟨h16, hs⟩
  rw [decide_eq_true rfl] at h16
  subst h16
  refine R.ev rfl (E.pickT rfl rfl) ?_
  refine R.ev rfl (E.assign rfl) ?_
  refine R.done ?_
  refine X.keep [(6, _)] ⟨rfl, trivial⟩ ?_
  refine X.next ?_
  refine C.ret ?_
  refine X.ret1 rfl rfl ?_
  exact ⟨rfl, (hs.less ((((((k5.trans k6).trans k7).trans k8).trans k11).trans k12).trans k13).le).mod⟩

namespace msgidAlgebra
open Go.ChangeShapes Go.WideShapes Go.ChangeAt Go.RowKit
open Go.ChangeMaps (open_string shut_string)
set_option linter.unusedVariables false

theorem own : ownKnob Try.prog.godebug = none := by kernel_rfl
theorem laidOut : laidOutB Try.prog = true := by kernel_rfl
set_option maxRecDepth 100000 in
theorem lifted (os : Os) (started : os.Started) (H : Type) (enc : TypeId × Value → H) :
    ReturnsInHanded {} Try.checked os 12 .any (Rows.msgidAlgebraSpec.pre6 enc Try.prog Try.f12 Rows.msgidAlgebraRow.domain false) (Rows.msgidAlgebraSpec.post enc Try.prog Try.f12 false true false false) := by
  refine returnsInHanded_of_change (C := Try.checked) own started (by kernel_rfl) Try.func12
    (ChangeSpec.witness6 (enc := enc) (C := Try.checked) false ⟨#[], #[.slice none 0 0, .slice none 0 0, .slice none 0 0], []⟩ 8 (by kernel_rfl) (by kernel_rfl) (by kernel_rfl) (by kernel_rfl)) ?_
  intro W base args ds gs before hval0 hW hcnd _
  have hval : ∀ (j : Nat) t v, Try.f12.params[j]? = some t → args[j]? = some v → Value.okWide Try.prog W .any base t v := hval0
  have hW' := hW
  obtain ⟨p, q, hA0, hV, rfl, hfz, hnd⟩ := hW
  have hA : DataW.TrodAll enc Try.prog W 0 (fun _ => true) true Try.f12.params.toList args.toList ds p := hA0
  rw [Try.params12] at hA hval
  obtain ⟨v0, vs0, d0, ds0, p0, q0, hargs, rfl, rfl, h0, r0⟩ := trodAll_cons hA
  obtain ⟨v1, vs1, d1, ds1, p1, q1, rfl, rfl, rfl, h1, r1⟩ := trodAll_cons r0
  obtain ⟨v2, vs2, d2, ds2, p2, q2, rfl, rfl, rfl, h2, r2⟩ := trodAll_cons r1
  obtain ⟨rfl, rfl, rfl⟩ := trodAll_nil r2
  obtain rfl : args = #[v0, v1, v2] := by cases args; simp_all
  obtain ⟨rfl, rfl⟩ := trodVars_none hV
  have lt0 : ∀ x ∈ p0, x.block < W.heap.size := by obtain ⟨m, hm⟩ := h0; exact DataW.trod_lt m _ _ _ hm
  have a0 := Eng.argv_of (hval 0 45 v0 rfl rfl) h0
  have lt1 : ∀ x ∈ p1, x.block < W.heap.size := by obtain ⟨m, hm⟩ := h1; exact DataW.trod_lt m _ _ _ hm
  have a1 := Eng.argv_of (hval 1 45 v1 rfl rfl) h1
  have lt2 : ∀ x ∈ p2, x.block < W.heap.size := by obtain ⟨m, hm⟩ := h2; exact DataW.trod_lt m _ _ _ hm
  have a2 := Eng.argv_of (hval 2 45 v2 rfl rfl) h2
  clear hA0 hval0
  refine Calls.mono (algebra_walk W v0 a0 v1 a1 v2 a2) fun e W' ⟨v, he, hv, hm⟩ => ?_
  subst he
  subst hv
  have bel := hm.below
  exact ⟨_, rfl, _, _, _, [], _, [], hW', trodAll_mk1 (shut_bool Try.underlying4 _), (trodAll_cons_mk (Below.trod laidOut (by kernel_rfl) (of_decide_eq_true (by kernel_rfl)) h0 bel lt0) (trodAll_cons_mk (Below.trod laidOut (by kernel_rfl) (of_decide_eq_true (by kernel_rfl)) h1 bel lt1) (trodAll_cons_mk (Below.trod laidOut (by kernel_rfl) (of_decide_eq_true (by kernel_rfl)) h2 bel lt2) trodAll_mk0))), rfl, bel.frame _, fun h => by cases h⟩

theorem over : Rows.msgidAlgebraRow.holds Try.pinned (OpenSpec.ofChange Rows.msgidAlgebraSpec) :=
  OpenClaim.holds_of_wide 12 Try.f12 rfl rfl rfl rfl rfl rfl rfl ⟨rfl, rfl, rfl, rfl, rfl⟩ rfl rfl rfl rfl rfl (by kernel_rfl) Try.func12 (by kernel_rfl)
    (of_decide_eq_true (by kernel_rfl)) (by unfold Func.isWrapper; first | (rw [if_pos (by decide +kernel)]; kernel_rfl) | (rw [if_neg (by decide +kernel)]; exact ⟨rfl, rfl⟩))
    (fun os started H enc _ => lifted os started H enc)
end msgidAlgebra
/-- the statement -/
theorem msgidAlgebra_holds : Rows.MsgidAlgebraSaid := msgidAlgebra.over
#print axioms msgidAlgebra_holds
end Go.Proofs.Ytkmgmdgkphckgaa
