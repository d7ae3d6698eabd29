/-
  HistoryDecodes returns true for every input. No condition.
-/
import Derived.Test.YtobhhnfckhbeeaaRows
import Derived.Test.YtobhhnfckhbeeaaRefB
namespace Go.Proofs.Ytobhhnfckhbeeaa
open Go.Eng Go.RowKit Go.Sort

theorem argv_bs {w : World} {v : Value} (h : ArgV Try.prog w 69 v) : ∃ ad cap, ∃ L : List UInt8, v = .slice ad L.length cap ∧ L.length ≤ cap ∧ cap ≤ maxLen ∧ KRow encB 1 (Kn.of w) v L :=
  argv_slK h Try.underlying69 (by kernel_rfl) (by decide) (fun _ _ _ h => fit_u8 h Try.underlying5)
theorem decodes_walk (w : World) (v0 : Value) (a0 : ArgV Try.prog w 69 v0) : Ret Try.prog 10 #[v0] w fun r w' => r = .bool true ∧ Mod [] w w' := by
  obtain ⟨ad, cap, B0, rfl, hc, hcm, hr⟩ := argv_bs a0
  have hs := Sat.start w
  have hrB := hr.first (i := min B0.length 2000) (by omega)
  have hBl : (B0.take (min B0.length 2000)).length = min B0.length 2000 := by rw [List.length_take]; omega
  unfold maxLen at hcm
  by_cases hg : ∃ c Dx, GoodB (B0.take (min B0.length 2000)) c Dx
  · obtain ⟨c, Dx, hg⟩ := hg
    generalize B0.take (min B0.length 2000) = B at hrB hBl hg
    have hbl := bytesH_len c Dx
    rw [← hg.eq] at hbl
    have hne : B ≠ [] := by intro e; rw [e] at hbl; simp at hbl; omega
    refine Ret.enter (n := 55) (args := [.slice ad B0.length cap]) Try.func10 rfl rfl ?_
    refine C.keep [(0, _)] ⟨rfl, trivial⟩ ?_
    refine C.seq ?_
    refine C.region ?_
    refine R.ev rfl (E.assign rfl) ?_
    refine R.done ?_
    refine X.keep [(0, _)] ⟨rfl, trivial⟩ ?_
    refine X.next ?_
    refine C.seq ?_
    refine C.region ?_
    refine R.ev rfl (E.move rfl) ?_
    refine R.ev rfl (E.move rfl) ?_
    refine R.ev rfl (E.lenSl rfl Try.underlying69) ?_
    refine R.ev rfl ((E.min2 rfl rfl).isI (c := ((min B0.length 2000 : Nat) : Int)) (by omega)) ?_
    refine R.ev rfl (E.sliceH (b := min B0.length 2000) rfl rfl Try.underlying69 Try.sz5 rfl (by omega)) ?_
    refine R.ev rfl (E.assign rfl) ?_
    refine R.done ?_
    refine X.keep [(0, _)] ⟨rfl, trivial⟩ ?_
    refine X.next ?_
    refine C.seq ?_
    refine C.seq ?_
    refine C.region ?_
    refine R.call ⟨_, _, Try.func13, rfl, by kernel_rfl⟩ rfl rfl (known_any hs) ?_
    rintro _ w1 ⟨rfl, hs⟩
    refine R.ev rfl (E.notT rfl) ?_
    refine R.done ?_
    refine X.keep [(0, _), (14, _)] ⟨rfl, rfl, trivial⟩ ?_
    refine X.next ?_
    refine C.cfalse rfl ?_
    refine C.skip ?_
    refine X.next ?_
    refine C.seq ?_
    refine C.region ?_
    refine R.ev rfl (E.move rfl) ?_
    refine R.call ⟨_, _, Try.func36, rfl, by kernel_rfl⟩ rfl rfl (decode_any (P := B) hs (by omega)) ?_
    rintro _ w7 (⟨hno, _⟩ | ⟨c', D', q, s7, F7, g7, rfl, hcut, ho7, hw7, hs⟩)
    · exact absurd hg (hno _ _)
    obtain ⟨rfl, rfl⟩ := hg.uniq g7
    refine R.ev rfl (E.move rfl) ?_
    refine R.ev rfl (E.extract rfl rfl) ?_
    refine R.ev rfl (E.extract rfl rfl) ?_
    refine R.ev rfl (E.assign rfl) ?_
    refine R.ev rfl (E.assign rfl) ?_
    refine R.done ?_
    refine X.keep [(0, _), (3, _), (4, _)] ⟨rfl, rfl, rfl, trivial⟩ ?_
    refine X.next ?_
    refine C.seq ?_
    refine C.region ?_
    refine R.ev rfl (E.move rfl) ?_
    refine R.call ⟨_, _, Try.func37, rfl, by kernel_rfl⟩ rfl rfl (rdecode_any (P := B) hs (by omega)) ?_
    rintro _ w8 (⟨hno, _⟩ | ⟨c', D', K8, v8, g8, rfl, hk8, hr8, hs⟩)
    · exact absurd hg (hno _ _)
    obtain ⟨rfl, rfl⟩ := hg.uniq g8
    have o8 : OneC v8 := ⟨KRow.oneC' hr8⟩
    refine R.ev rfl (E.move rfl) ?_
    refine R.ev rfl (E.extract rfl rfl) ?_
    refine R.ev rfl (E.extract rfl rfl) ?_
    refine R.ev rfl (E.extract rfl rfl) ?_
    refine R.ev rfl (E.assign rfl) ?_
    refine R.ev rfl (E.assign rfl) ?_
    refine R.ev rfl (E.assign rfl) ?_
    refine R.done ?_
    refine X.keep [(0, _), (3, _), (4, _), (5, _), (6, _), (7, _)] ⟨rfl, rfl, rfl, rfl, rfl, rfl, trivial⟩ ?_
    refine X.next ?_
    refine C.seq ?_
    refine C.seq ?_
    refine C.region ?_
    refine R.ev rfl (E.move rfl) ?_
    refine R.ev rfl (E.move rfl) ?_
    refine R.ev rfl ((E.neq rfl rfl).isF (by simp)) ?_
    refine R.done ?_
    refine X.keep [(0, _), (3, _), (5, _), (6, _), (7, _), (28, _)] ⟨rfl, rfl, rfl, rfl, rfl, rfl, trivial⟩ ?_
    refine X.next ?_
    refine C.cfalse rfl ?_
    refine C.skip ?_
    refine X.next ?_
    refine C.seq ?_
    refine C.seq ?_
    refine C.region ?_
    refine R.ev rfl (E.move rfl) ?_
    refine R.ev rfl ((E.neq rfl rfl).isF (by simp)) ?_
    refine R.done ?_
    refine X.keep [(0, _), (3, _), (5, _), (6, _), (30, _)] ⟨rfl, rfl, rfl, rfl, rfl, trivial⟩ ?_
    refine X.next ?_
    refine C.cfalse rfl ?_
    refine C.skip ?_
    refine X.next ?_
    refine C.seq ?_
    refine C.drawn (SatS hs) ([], [0, 1, 2, 3, 5, 7, 8, 9, 11, 12, 13, 14, 15, 18, 20, 21, 22]) (by kernel_rfl) ?_
    have hs := hs.drew
    refine D.evP 0 rfl (by kernel_rfl) rfl (np (by kernel_rfl)) (fun _ => E.move rfl) ?_
    refine D.evP 1 rfl (by kernel_rfl) rfl (np (by kernel_rfl)) (fun _ => E.neNilT rfl rfl Try.underlying35) ?_
    refine D.evP 2 rfl (by kernel_rfl) rfl (np (by kernel_rfl)) (fun _ => E.move rfl) ?_
    refine D.evPG 3 rfl (by kernel_rfl) rfl rfl rfl (np (by kernel_rfl)) (fun _ => E.move rfl) ?_
    refine D.evPG 5 rfl (by kernel_rfl) rfl rfl rfl (np (by kernel_rfl)) (fun _ => E.move rfl) ?_
    refine D.act 4 rfl (by kernel_rfl) ?_
    refine R.gyes rfl rfl ?_
    refine R.call ⟨_, _, Try.func28, rfl, by kernel_rfl⟩ rfl rfl (entries_any ho7 hs) ?_
    rintro v104 w104 ⟨F104, r104, hs⟩
    refine D.backT (by kernel_rfl) ?_
    refine D.act 6 rfl (by kernel_rfl) ?_
    refine R.gyes rfl rfl ?_
    refine R.call ⟨_, _, Try.func27, rfl, by kernel_rfl⟩ rfl rfl (rsame_any (L := Dx) (M := Dx) hs (by omega)) ?_
    rintro _ w106 ⟨rfl, hs⟩
    rw [decide_eq_true rfl]
    refine D.backT (by kernel_rfl) ?_
    refine D.evP 7 rfl (by kernel_rfl) rfl (np (by kernel_rfl)) (fun _ => E.pickT rfl rfl) ?_
    refine D.evP 8 rfl (by kernel_rfl) rfl (np (by kernel_rfl)) (fun _ => E.move rfl) ?_
    refine D.evPG 9 rfl (by kernel_rfl) rfl rfl rfl (np (by kernel_rfl)) (fun _ => E.move rfl) ?_
    refine D.evPG 11 rfl (by kernel_rfl) rfl rfl rfl (np (by kernel_rfl)) (fun _ => E.move rfl) ?_
    refine D.act 10 rfl (by kernel_rfl) ?_
    refine R.gyes rfl rfl ?_
    refine R.call ⟨_, _, Try.func26, rfl, by kernel_rfl⟩ rfl rfl (cutoff_any hs) ?_
    rintro _ w1010 ⟨rfl, hs⟩
    refine D.backT (by kernel_rfl) ?_
    refine D.evPG 12 rfl (by kernel_rfl) rfl rfl rfl (np (by kernel_rfl)) (fun _ => (E.eql rfl rfl).isT hcut) ?_
    refine D.evP 13 rfl (by kernel_rfl) rfl (np (by kernel_rfl)) (fun _ => E.pickT rfl rfl) ?_
    refine D.evP 14 rfl (by kernel_rfl) rfl (np (by kernel_rfl)) (fun _ => E.move rfl) ?_
    refine D.evPG 15 rfl (by kernel_rfl) rfl rfl rfl (np (by kernel_rfl)) (fun _ => E.move rfl) ?_
    refine D.evPG 18 rfl (by kernel_rfl) rfl rfl rfl (np (by kernel_rfl)) (fun _ => E.move rfl) ?_
    refine D.act2 16 19 rfl rfl (by kernel_rfl) ?_ ?_
    · refine R.gyes rfl rfl ?_
      refine R.call ⟨_, _, Try.func38, rfl, by kernel_rfl⟩ rfl rfl (encode_any ho7 hg.chk (by omega) hs) ?_
      rintro v16 w16 ⟨F16, r16, hs⟩
      rw [hcut, ← hg.eq] at r16
      obtain ⟨ad16, cap16, rfl, _⟩ := r16.val
      refine D.backT (by kernel_rfl) ?_
      refine D.act2 17 19 rfl rfl (by kernel_rfl) ?_ ?_
      · refine R.gyes rfl rfl ?_
        refine R.ev rfl (E.bytesRd hs rfl Try.underlying69 Try.underlying5 Try.underlying9 hne) ?_
        refine D.backT (by kernel_rfl) ?_
        refine D.act 19 rfl (by kernel_rfl) ?_
        refine R.gyes rfl rfl ?_
        refine R.ev rfl (E.bytesRd hs rfl Try.underlying69 Try.underlying5 Try.underlying9 hne) ?_
        refine D.backT (by kernel_rfl) ?_
        refine D.evPG 20 rfl (by kernel_rfl) rfl rfl rfl (np (by kernel_rfl)) (fun _ => (E.seql rfl rfl).isT rfl) ?_
        refine D.evP 21 rfl (by kernel_rfl) rfl (np (by kernel_rfl)) (fun _ => E.pickT rfl rfl) ?_
        refine D.evP 22 rfl (by kernel_rfl) rfl (np (by kernel_rfl)) (fun _ => E.assign rfl) ?_
        refine D.done rfl (by kernel_rfl) ?_
        refine X.keep [(2, _)] ⟨rfl, trivial⟩ ?_
        refine X.next ?_
        refine C.ret ?_
        refine X.ret1 rfl rfl ?_
        exact ⟨rfl, (hs.less hk8.le).mod⟩
      · refine R.gyes rfl rfl ?_
        refine R.ev rfl (E.bytesRd hs rfl Try.underlying69 Try.underlying5 Try.underlying9 hne) ?_
        refine D.backT (by kernel_rfl) ?_
        refine D.act 17 rfl (by kernel_rfl) ?_
        refine R.gyes rfl rfl ?_
        refine R.ev rfl (E.bytesRd hs rfl Try.underlying69 Try.underlying5 Try.underlying9 hne) ?_
        refine D.backT (by kernel_rfl) ?_
        refine D.evPG 20 rfl (by kernel_rfl) rfl rfl rfl (np (by kernel_rfl)) (fun _ => (E.seql rfl rfl).isT rfl) ?_
        refine D.evP 21 rfl (by kernel_rfl) rfl (np (by kernel_rfl)) (fun _ => E.pickT rfl rfl) ?_
        refine D.evP 22 rfl (by kernel_rfl) rfl (np (by kernel_rfl)) (fun _ => E.assign rfl) ?_
        refine D.done rfl (by kernel_rfl) ?_
        refine X.keep [(2, _)] ⟨rfl, trivial⟩ ?_
        refine X.next ?_
        refine C.ret ?_
        refine X.ret1 rfl rfl ?_
        exact ⟨rfl, (hs.less hk8.le).mod⟩
    · refine R.gyes rfl rfl ?_
      refine R.ev rfl (E.bytesRd hs rfl Try.underlying69 Try.underlying5 Try.underlying9 hne) ?_
      refine D.backT (by kernel_rfl) ?_
      refine D.act 16 rfl (by kernel_rfl) ?_
      refine R.gyes rfl rfl ?_
      refine R.call ⟨_, _, Try.func38, rfl, by kernel_rfl⟩ rfl rfl (encode_any ho7 hg.chk (by omega) hs) ?_
      rintro v16 w16 ⟨F16, r16, hs⟩
      rw [hcut, ← hg.eq] at r16
      obtain ⟨ad16, cap16, rfl, _⟩ := r16.val
      refine D.backT (by kernel_rfl) ?_
      refine D.act 17 rfl (by kernel_rfl) ?_
      refine R.gyes rfl rfl ?_
      refine R.ev rfl (E.bytesRd hs rfl Try.underlying69 Try.underlying5 Try.underlying9 hne) ?_
      refine D.backT (by kernel_rfl) ?_
      refine D.evPG 20 rfl (by kernel_rfl) rfl rfl rfl (np (by kernel_rfl)) (fun _ => (E.seql rfl rfl).isT rfl) ?_
      refine D.evP 21 rfl (by kernel_rfl) rfl (np (by kernel_rfl)) (fun _ => E.pickT rfl rfl) ?_
      refine D.evP 22 rfl (by kernel_rfl) rfl (np (by kernel_rfl)) (fun _ => E.assign rfl) ?_
      refine D.done rfl (by kernel_rfl) ?_
      refine X.keep [(2, _)] ⟨rfl, trivial⟩ ?_
      refine X.next ?_
      refine C.ret ?_
      refine X.ret1 rfl rfl ?_
      exact ⟨rfl, (hs.less hk8.le).mod⟩
  · have hno : ∀ c Dx, ¬ GoodB (B0.take (min B0.length 2000)) c Dx := fun c Dx h => hg ⟨c, Dx, h⟩
    clear hg
    generalize B0.take (min B0.length 2000) = B at hrB hBl hno
    refine Ret.enter (n := 55) (args := [.slice ad B0.length cap]) Try.func10 rfl rfl ?_
    refine C.keep [(0, _)] ⟨rfl, trivial⟩ ?_
    refine C.seq ?_
    refine C.region ?_
    refine R.ev rfl (E.assign rfl) ?_
    refine R.done ?_
    refine X.keep [(0, _)] ⟨rfl, trivial⟩ ?_
    refine X.next ?_
    refine C.seq ?_
    refine C.region ?_
    refine R.ev rfl (E.move rfl) ?_
    refine R.ev rfl (E.move rfl) ?_
    refine R.ev rfl (E.lenSl rfl Try.underlying69) ?_
    refine R.ev rfl ((E.min2 rfl rfl).isI (c := ((min B0.length 2000 : Nat) : Int)) (by omega)) ?_
    refine R.ev rfl (E.sliceH (b := min B0.length 2000) rfl rfl Try.underlying69 Try.sz5 rfl (by omega)) ?_
    refine R.ev rfl (E.assign rfl) ?_
    refine R.done ?_
    refine X.keep [(0, _)] ⟨rfl, trivial⟩ ?_
    refine X.next ?_
    refine C.seq ?_
    refine C.seq ?_
    refine C.region ?_
    refine R.call ⟨_, _, Try.func13, rfl, by kernel_rfl⟩ rfl rfl (known_any hs) ?_
    rintro _ w1 ⟨rfl, hs⟩
    refine R.ev rfl (E.notT rfl) ?_
    refine R.done ?_
    refine X.keep [(0, _), (14, _)] ⟨rfl, rfl, trivial⟩ ?_
    refine X.next ?_
    refine C.cfalse rfl ?_
    refine C.skip ?_
    refine X.next ?_
    refine C.seq ?_
    refine C.region ?_
    refine R.ev rfl (E.move rfl) ?_
    refine R.call ⟨_, _, Try.func36, rfl, by kernel_rfl⟩ rfl rfl (decode_any (P := B) hs (by omega)) ?_
    rintro _ w7 (⟨_, rfl, hs⟩ | ⟨c', D', q, s7, F7, g7, _⟩)
    rotate_left
    · exact absurd g7 (hno _ _)
    refine R.ev rfl (E.move rfl) ?_
    refine R.ev rfl (E.extract rfl rfl) ?_
    refine R.ev rfl (E.extract rfl rfl) ?_
    refine R.ev rfl (E.assign rfl) ?_
    refine R.ev rfl (E.assign rfl) ?_
    refine R.done ?_
    refine X.keep [(0, _), (3, _), (4, _)] ⟨rfl, rfl, rfl, trivial⟩ ?_
    refine X.next ?_
    refine C.seq ?_
    refine C.region ?_
    refine R.ev rfl (E.move rfl) ?_
    refine R.call ⟨_, _, Try.func37, rfl, by kernel_rfl⟩ rfl rfl (rdecode_any (P := B) hs (by omega)) ?_
    rintro _ w8 (⟨_, rfl, hs⟩ | ⟨c', D', K8, v8, g8, _⟩)
    rotate_left
    · exact absurd g8 (hno _ _)
    refine R.ev rfl (E.move rfl) ?_
    refine R.ev rfl (E.extract rfl rfl) ?_
    refine R.ev rfl (E.extract rfl rfl) ?_
    refine R.ev rfl (E.extract rfl rfl) ?_
    refine R.ev rfl (E.assign rfl) ?_
    refine R.ev rfl (E.assign rfl) ?_
    refine R.ev rfl (E.assign rfl) ?_
    refine R.done ?_
    refine X.keep [(0, _), (3, _), (4, _), (5, _), (6, _), (7, _)] ⟨rfl, rfl, rfl, rfl, rfl, rfl, trivial⟩ ?_
    refine X.next ?_
    refine C.seq ?_
    refine C.seq ?_
    refine C.region ?_
    refine R.ev rfl (E.move rfl) ?_
    refine R.ev rfl (E.move rfl) ?_
    refine R.ev rfl ((E.neq rfl rfl).isF (by simp)) ?_
    refine R.done ?_
    refine X.keep [(0, _), (3, _), (5, _), (6, _), (7, _), (28, _)] ⟨rfl, rfl, rfl, rfl, rfl, rfl, trivial⟩ ?_
    refine X.next ?_
    refine C.cfalse rfl ?_
    refine C.skip ?_
    refine X.next ?_
    refine C.seq ?_
    refine C.seq ?_
    refine C.region ?_
    refine R.ev rfl (E.move rfl) ?_
    refine R.ev rfl ((E.neq rfl rfl).isT (by simp)) ?_
    refine R.done ?_
    refine X.keep [(0, _), (3, _), (5, _), (6, _), (30, _)] ⟨rfl, rfl, rfl, rfl, rfl, trivial⟩ ?_
    refine X.next ?_
    refine C.ctrue rfl ?_
    refine C.seq ?_
    refine C.region ?_
    refine R.ev rfl (E.move rfl) ?_
    refine R.ev rfl (E.eqlNilT rfl rfl Try.underlying35) ?_
    refine R.ev rfl (E.assign rfl) ?_
    refine R.done ?_
    refine X.keep [(2, _)] ⟨rfl, trivial⟩ ?_
    refine X.next ?_
    refine C.ret ?_
    refine X.thenRet ?_
    refine X.ret1 rfl rfl ?_
    exact ⟨rfl, hs.mod⟩

namespace historyDecodes
open Go.ChangeShapes Go.WideShapes Go.ChangeAt Go.RowKit
open Go.ChangeMaps (open_string shut_string)
set_option linter.unusedVariables false

theorem own : ownKnob Try.prog.godebug = none := by kernel_rfl
theorem laidOut : laidOutB Try.prog = true := by kernel_rfl
set_option maxRecDepth 100000 in
theorem lifted (os : Os) (started : os.Started) (H : Type) (enc : TypeId × Value → H) :
    ReturnsInHanded {} Try.checked os 10 .any (Rows.historyDecodesSpec.pre6 enc Try.prog Try.f10 Rows.historyDecodesRow.domain false) (Rows.historyDecodesSpec.post enc Try.prog Try.f10 false true false false) := by
  refine returnsInHanded_of_change (C := Try.checked) own started (by kernel_rfl) Try.func10
    (ChangeSpec.witness6 (enc := enc) (C := Try.checked) false ⟨#[], #[.slice none 0 0], []⟩ 8 (by kernel_rfl) (by kernel_rfl) (by kernel_rfl) (by kernel_rfl)) ?_
  intro W base args ds gs before hval0 hW hcnd _
  have hval : ∀ (j : Nat) t v, Try.f10.params[j]? = some t → args[j]? = some v → Value.okWide Try.prog W .any base t v := hval0
  have hW' := hW
  obtain ⟨p, q, hA0, hV, rfl, hfz, hnd⟩ := hW
  have hA : DataW.TrodAll enc Try.prog W 0 (fun _ => true) true Try.f10.params.toList args.toList ds p := hA0
  rw [Try.params10] at hA hval
  obtain ⟨v0, vs0, d0, ds0, p0, q0, hargs, rfl, rfl, h0, r0⟩ := trodAll_cons hA
  obtain ⟨rfl, rfl, rfl⟩ := trodAll_nil r0
  obtain rfl : args = #[v0] := by cases args; simp_all
  obtain ⟨rfl, rfl⟩ := trodVars_none hV
  have lt0 : ∀ x ∈ p0, x.block < W.heap.size := by obtain ⟨m, hm⟩ := h0; exact DataW.trod_lt m _ _ _ hm
  have a0 := Eng.argv_of (hval 0 69 v0 rfl rfl) h0
  clear hA0 hval0
  refine Calls.mono (decodes_walk W v0 a0) fun e W' ⟨v, he, hv, hm⟩ => ?_
  subst he
  subst hv
  have bel := hm.below
  exact ⟨_, rfl, _, _, _, [], _, [], hW', trodAll_mk1 (shut_bool Try.underlying4 _), (trodAll_cons_mk (Below.trod laidOut (by kernel_rfl) (of_decide_eq_true (by kernel_rfl)) h0 bel lt0) trodAll_mk0), rfl, bel.frame _, fun h => by cases h⟩

theorem over : Rows.historyDecodesRow.holds Try.pinned (OpenSpec.ofChange Rows.historyDecodesSpec) :=
  OpenClaim.holds_of_wide 10 Try.f10 rfl rfl rfl rfl rfl rfl rfl ⟨rfl, rfl, rfl, rfl, rfl⟩ rfl rfl rfl rfl rfl (by kernel_rfl) Try.func10 (by kernel_rfl)
    (of_decide_eq_true (by kernel_rfl)) (by unfold Func.isWrapper; first | (rw [if_pos (by decide +kernel)]; kernel_rfl) | (rw [if_neg (by decide +kernel)]; exact ⟨rfl, rfl⟩))
    (fun os started H enc _ => lifted os started H enc)
end historyDecodes
/-- the statement -/
theorem historyDecodes_holds : Rows.HistoryDecodesSaid := historyDecodes.over
#print axioms historyDecodes_holds
end Go.Proofs.Ytobhhnfckhbeeaa
