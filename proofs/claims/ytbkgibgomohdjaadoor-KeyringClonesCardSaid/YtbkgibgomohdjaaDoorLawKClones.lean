/-
  KeyringClones returns true for every list of roll-overs and every further one: a clone is equal and independent. No condition but the listed table (tied to the program's text).
-/
import Derived.Test.YtbkgibgomohdjaaDoorKrQ
namespace Go.Proofs.YtbkgibgomohdjaaDoor
open Go.Eng Go.RowKit Go.Sort
theorem eqKr_refl {L : List RO} : eqKr L L = true := eqKr_iff.2 ⟨rfl, fun _ h => h⟩
theorem eqKr_step {L : List RO} (m : Mv) : eqKr (stepL L m) L = decide ((stepL L m).length = L.length) ∧ eqKr L (stepL L m) = decide ((stepL L m).length = L.length) := by
  unfold stepL addL
  split
  · have h1 : ¬ (L ++ [rkR m]).length = L.length := by simp
    have h2 : ¬ L.length = (L ++ [rkR m]).length := by simp
    rw [eqKr, eqKr, decide_eq_false h1, decide_eq_false h2]; exact ⟨rfl, rfl⟩
  · rw [eqKr_refl, decide_eq_true rfl]; exact ⟨rfl, rfl⟩
theorem kclones_walk (w : World) (hkc : HasKc (Kn.of w)) (v1 : Value) (a1 : ArgV Tryd.prog w 22 v1) (v2 : Value) (a2 : ArgV Tryd.prog w 41 v2) : Ret Tryd.prog 7 #[v1, v2] w fun r w' => r = .bool true ∧ Mod [] w w' := by
  obtain ⟨ad, cap, ms, rfl, hc1, _, hr1⟩ := argv_mvs a1
  obtain ⟨mo, rfl⟩ := argv_mv a2
  have hs := Sat.start w
  refine Ret.enter (n := 82) (args := [.slice ad ms.length cap, .agg (encMv mo).toArray]) Tryd.func7 rfl rfl ?_
  refine C.keep [(0, _), (1, _)] ⟨rfl, rfl, trivial⟩ ?_
  refine C.seq ?_
  refine C.region ?_
  refine R.sboxA hs rfl rfl ?_
  intro b3 w3 hs
  refine R.ev rfl (E.assign rfl) ?_
  refine R.done ?_
  refine X.keep [(0, _), (3, _)] ⟨rfl, rfl, trivial⟩ ?_
  refine X.next ?_
  refine C.seq ?_
  refine C.seq ?_
  refine C.region ?_
  refine R.call ⟨_, _, Tryd.func11, rfl, by kernel_rfl⟩ rfl rfl (known_any hs) ?_
  rintro _ w1 ⟨rfl, hs⟩
  refine R.ev rfl (E.notT rfl) ?_
  refine R.done ?_
  refine X.keep [(0, _), (3, _), (12, _)] ⟨rfl, rfl, rfl, trivial⟩ ?_
  refine X.next ?_
  refine C.cfalse rfl ?_
  refine C.skip ?_
  refine X.next ?_
  refine C.seq ?_
  refine C.region ?_
  refine R.ev rfl (E.move rfl) ?_
  refine R.call ⟨_, _, Tryd.func12, rfl, by kernel_rfl⟩ rfl rfl (build_any (ms := ms) (n := 16) (by decide) hs) ?_
  rintro _ w3 ⟨p, K2, v8, MK, MR, F, rfl, hk2, hr8, hI, hw, hs⟩
  have hbl : (bld (ms.take 16)).length ≤ 16 := by have := bld_len (ms.take 16); rw [List.length_take] at this; omega
  have o8 : OneC v8 := ⟨KRow.oneC' hr8⟩
  generalize bld (ms.take 16) = L at hr8 hI hbl
  have hstp := eqKr_step (L := L) mo
  have hsl := (step_len L mo).1
  refine R.ev rfl (E.move rfl) ?_
  refine R.ev rfl (E.extract rfl rfl) ?_
  refine R.ev rfl (E.extract rfl rfl) ?_
  refine R.ev rfl (E.extract rfl rfl) ?_
  refine R.ev rfl (E.assign rfl) ?_
  refine R.ev rfl (E.assign rfl) ?_
  refine R.ev rfl (E.assign rfl) ?_
  refine R.done ?_
  refine X.keep [(3, _), (5, _), (6, _)] ⟨rfl, rfl, rfl, trivial⟩ ?_
  refine X.next ?_
  refine C.seq ?_
  refine C.region ?_
  refine R.ev rfl (E.move rfl) ?_
  refine R.call ⟨_, _, Tryd.func27, rfl, by kernel_rfl⟩ rfl rfl (clone_any hI (by omega) hs) ?_
  rintro _ w4 ⟨q, rfl, MK2, MR2, F2, hI2, hw2, hs⟩
  refine R.ev rfl (E.assign rfl) ?_
  refine R.done ?_
  refine X.keep [(3, _), (5, _), (6, _), (8, _)] ⟨rfl, rfl, rfl, rfl, trivial⟩ ?_
  refine X.next ?_
  refine C.seq ?_
  refine C.seq ?_
  refine C.region ?_
  refine R.ev rfl (E.move rfl) ?_
  refine R.ev rfl (E.eqlNilF rfl rfl Tryd.underlying25) ?_
  refine R.ev rfl (E.move rfl) ?_
  refine R.gyes rfl rfl ?_
  refine R.ev rfl (E.move rfl) ?_
  refine R.gyes rfl rfl ?_
  refine R.ev rfl (E.move rfl) ?_
  refine R.gyes rfl rfl ?_
  refine R.call ⟨_, _, Tryd.func25, rfl, by kernel_rfl⟩ rfl rfl (equal_any hI2 hI (by omega) (by omega) hs) ?_
  rintro _ w55 ⟨rfl, hs⟩
  rw [eqKr_refl]
  refine R.gyes rfl rfl ?_
  refine R.ev rfl (E.notT rfl) ?_
  refine R.ev rfl (E.pickF rfl rfl) ?_
  refine R.ev rfl (E.move rfl) ?_
  refine R.gyes rfl rfl ?_
  refine R.ev rfl (E.move rfl) ?_
  refine R.gyes rfl rfl ?_
  refine R.ev rfl (E.move rfl) ?_
  refine R.gyes rfl rfl ?_
  refine R.call ⟨_, _, Tryd.func25, rfl, by kernel_rfl⟩ rfl rfl (equal_any hI hI2 (by omega) (by omega) hs) ?_
  rintro _ w511 ⟨rfl, hs⟩
  rw [eqKr_refl]
  refine R.gyes rfl rfl ?_
  refine R.ev rfl (E.notT rfl) ?_
  refine R.ev rfl (E.pickF rfl rfl) ?_
  refine R.done ?_
  refine X.keep [(3, _), (5, _), (6, _), (8, _), (34, _)] ⟨rfl, rfl, rfl, rfl, rfl, trivial⟩ ?_
  refine X.next ?_
  refine C.cfalse rfl ?_
  refine C.skip ?_
  refine X.next ?_
  refine C.seq ?_
  refine C.region ?_
  refine R.ev rfl (E.move rfl) ?_
  refine R.ev rfl (E.move rfl) ?_
  refine R.ev rfl (E.loadRowC rfl Tryd.underlying41 rfl Tryd.sz41 (by first | exact ⟨hs.ldA, by first | rfl | assumption | exact encV_len _ | exact Enc.len _ | exact len_ub (by assumption)⟩ | exact ⟨hs.ldP rfl, by first | rfl | assumption | exact encV_len _ | exact Enc.len _ | exact len_ub (by assumption)⟩ | exact ⟨hs.ldM rfl rfl, by first | rfl | assumption | exact encV_len _ | exact Enc.len _ | exact len_ub (by assumption)⟩ | exact ⟨hs.ldM (by assumption) (by first | rfl | assumption), by first | rfl | assumption | exact encV_len _ | exact Enc.len _ | exact len_ub (by assumption)⟩ | exact ⟨by assumption, by first | rfl | assumption | exact encV_len _ | exact Enc.len _ | exact len_ub (by assumption)⟩ | exact hs.ldp | exact At.partC (by assumption))) ?_
  refine R.call ⟨_, _, Tryd.func20, rfl, by kernel_rfl⟩ rfl rfl (ladd_any mo hI2 (by omega) (hs.front (F := F2))) ?_
  rintro _ w7 ⟨K3, v9, MK3, MR3, F3, rfl, hk3, hr9, hI3, hw3, hs1⟩
  have hs := hs.back (F := F2) hs1
  have o9 : OneC v9 := ⟨KRow.oneC' hr9⟩
  have hr8 : KRow encO 84 K3 v8 L := KRow.mono (k := hk3) (h := hr8)
  obtain ⟨ad8, cap8, rfl, _⟩ := hr8.ex
  obtain ⟨ad9, cap9, rfl, _⟩ := hr9.ex
  refine R.ev rfl (E.move rfl) ?_
  refine R.ev rfl (E.extract rfl rfl) ?_
  refine R.ev rfl (E.extract rfl rfl) ?_
  refine R.ev rfl (E.assign rfl) ?_
  refine R.ev rfl (E.assign rfl) ?_
  refine R.done ?_
  refine X.keep [(5, _), (6, _), (8, _), (9, _), (10, _)] ⟨rfl, rfl, rfl, rfl, rfl, trivial⟩ ?_
  refine X.next ?_
  refine C.seq ?_
  refine C.region ?_
  refine R.ev rfl (E.move rfl) ?_
  refine R.ev rfl (E.move rfl) ?_
  refine R.gyes rfl rfl ?_
  refine R.ev rfl (E.move rfl) ?_
  refine R.gyes rfl rfl ?_
  refine R.call ⟨_, _, Tryd.func28, rfl, by kernel_rfl⟩ rfl rfl (len_any hI hs) ?_
  rintro _ w83 ⟨rfl, hs⟩
  refine R.gyes rfl rfl ?_
  refine R.ev rfl (E.move rfl) ?_
  refine R.gyes rfl rfl ?_
  refine R.ev rfl (E.lenSl rfl Tryd.underlying26) ?_
  refine R.gyes rfl rfl ?_
  refine R.ev rfl ((E.eql rfl rfl).isT rfl) ?_
  refine R.ev rfl (E.pickT rfl rfl) ?_
  refine R.ev rfl (E.move rfl) ?_
  refine R.gyes rfl rfl ?_
  refine R.ev rfl (E.move rfl) ?_
  refine R.gyes rfl rfl ?_
  refine R.ev rfl (E.move rfl) ?_
  refine R.gyes rfl rfl ?_
  refine R.call ⟨_, _, Tryd.func26, rfl, by kernel_rfl⟩ rfl rfl (chains_any hI (fun _ => Iff.rfl) (by omega) (by omega) hs) ?_
  rintro _ w811 ⟨rfl, hs⟩
  refine R.ev rfl (E.pickT rfl rfl) ?_
  refine R.ev rfl (E.move rfl) ?_
  refine R.gyes rfl rfl ?_
  refine R.ev rfl (E.move rfl) ?_
  refine R.gyes rfl rfl ?_
  refine R.ev rfl (E.move rfl) ?_
  refine R.gyes rfl rfl ?_
  refine R.call ⟨_, _, Tryd.func26, rfl, by kernel_rfl⟩ rfl rfl (chains_any hI3 (fun _ => Iff.rfl) (by omega) (by omega) hs) ?_
  rintro _ w816 ⟨rfl, hs⟩
  refine R.ev rfl (E.pickT rfl rfl) ?_
  refine R.ev rfl (E.move rfl) ?_
  refine R.gyes rfl rfl ?_
  refine R.ev rfl (E.move rfl) ?_
  refine R.gyes rfl rfl ?_
  refine R.ev rfl (E.move rfl) ?_
  refine R.gyes rfl rfl ?_
  refine R.call ⟨_, _, Tryd.func25, rfl, by kernel_rfl⟩ rfl rfl (equal_any hI3 hI (by omega) (by omega) hs) ?_
  rintro _ w821 ⟨rfl, hs⟩
  rw [hstp.1]
  refine R.gyes rfl rfl ?_
  refine R.ev rfl (E.move rfl) ?_
  refine R.gyes rfl rfl ?_
  refine R.ev rfl (E.lenSl rfl Tryd.underlying26) ?_
  refine R.gyes rfl rfl ?_
  refine R.ev rfl (E.move rfl) ?_
  refine R.gyes rfl rfl ?_
  refine R.ev rfl (E.lenSl rfl Tryd.underlying26) ?_
  refine R.gyes rfl rfl ?_
  refine R.ev rfl ((E.eql rfl rfl).isB (c := decide ((stepL L mo).length = L.length)) (by rw [decide_eq_decide]; omega)) ?_
  refine R.gyes rfl rfl ?_
  refine R.ev rfl ((E.eqlB rfl rfl Tryd.underlying4).isB (c := true) (by simp)) ?_
  refine R.ev rfl (E.pickT rfl rfl) ?_
  refine R.ev rfl (E.move rfl) ?_
  refine R.gyes rfl rfl ?_
  refine R.ev rfl (E.move rfl) ?_
  refine R.gyes rfl rfl ?_
  refine R.ev rfl (E.move rfl) ?_
  refine R.gyes rfl rfl ?_
  refine R.call ⟨_, _, Tryd.func25, rfl, by kernel_rfl⟩ rfl rfl (equal_any hI hI3 (by omega) (by omega) hs) ?_
  rintro _ w832 ⟨rfl, hs⟩
  rw [hstp.2]
  refine R.gyes rfl rfl ?_
  refine R.ev rfl (E.move rfl) ?_
  refine R.gyes rfl rfl ?_
  refine R.ev rfl (E.lenSl rfl Tryd.underlying26) ?_
  refine R.gyes rfl rfl ?_
  refine R.ev rfl (E.move rfl) ?_
  refine R.gyes rfl rfl ?_
  refine R.ev rfl (E.lenSl rfl Tryd.underlying26) ?_
  refine R.gyes rfl rfl ?_
  refine R.ev rfl ((E.eql rfl rfl).isB (c := decide ((stepL L mo).length = L.length)) (by rw [decide_eq_decide]; omega)) ?_
  refine R.gyes rfl rfl ?_
  refine R.ev rfl ((E.eqlB rfl rfl Tryd.underlying4).isB (c := true) (by simp)) ?_
  refine R.ev rfl (E.pickT rfl rfl) ?_
  refine R.ev rfl (E.assign rfl) ?_
  refine R.done ?_
  refine X.keep [(4, _)] ⟨rfl, trivial⟩ ?_
  refine X.next ?_
  refine C.ret ?_
  refine X.ret1 rfl rfl ?_
  exact ⟨rfl, (hs.less (hk2.trans hk3).le).mod⟩

namespace keyringClones
open Go.ChangeShapes Go.WideShapes Go.ChangeAt Go.RowKit
open Go.ChangeMaps (open_string shut_string)
set_option linter.unusedVariables false

theorem own : ownKnob Tryd.prog.godebug = none := by kernel_rfl
theorem laidOut : laidOutB Tryd.prog = true := by kernel_rfl
theorem door_met (os : Os) (args : Array Value) : laidMetH Tryd.prog Rows.keyringClonesRow.laid ((World.doorLaid Tryd.prog 400 os).forCall (fun _ _ => 0) ⟨#[], args, []⟩).memory :=
  laidMetH_of_parts3 (fuel := 8) (laidMet_of_run' 8 (by kernel_rfl) (by kernel_rfl)) (by kernel_rfl) (by kernel_rfl)
set_option maxRecDepth 100000 in
theorem lifted (os : Os) (started : os.Started) (H : Type) (enc : TypeId × Value → H) :
    ReturnsInHanded {} Tryd.checked os 7 .any (fun w args => (Rows.keyringClonesSpec.pre enc Tryd.prog Tryd.f7 [] false w args ∧ laidMetH Tryd.prog Rows.keyringClonesRow.laid w) ∧ sizedMet enc Tryd.prog Tryd.f7 (OpenSpec.ofChange Rows.keyringClonesSpec) false w args)
      (Rows.keyringClonesSpec.post enc Tryd.prog Tryd.f7 false true false false) := by
  refine returnsInHanded_of_change_and (C := Tryd.checked) (X := fun w _ => laidMetH Tryd.prog Rows.keyringClonesRow.laid w) (fun _ _ _ hh h => h.of_heap hh) own started (by kernel_rfl) Tryd.func7
    (ChangeSpec.witness_shaped (enc := enc) (C := Tryd.checked) (os := os) (X := fun w _ => laidMetH Tryd.prog Rows.keyringClonesRow.laid w) false (World.doorLaid Tryd.prog 400 os) #[.slice none 0 0, .agg #[.int .u8 0, .int .u8 0, .int .u8 0, .int .u8 0, .int .u8 0, .int .u8 0, .int .u8 0]] 8 rfl (World.shaped_of_RefB (by kernel_rfl) (by kernel_rfl)) (by kernel_rfl) (by kernel_rfl) (by kernel_rfl) (door_met os _)) ?_
  intro W base args ds gs before hval0 hW _ _ hL _
  have hval : ∀ (j : Nat) t v, Tryd.f7.params[j]? = some t → args[j]? = some v → Value.okWide Tryd.prog W .any base t v := hval0
  have hW' := hW
  obtain ⟨p, q, hA0, hV, rfl, hfz, hnd⟩ := hW
  have hA : DataW.TrodAll enc Tryd.prog W 0 (fun _ => true) true Tryd.f7.params.toList args.toList ds p := hA0
  rw [Tryd.params7] at hA hval
  obtain ⟨v0, vs0, d0, ds0, p0, q0, hargs, rfl, rfl, h0, r0⟩ := trodAll_cons hA
  obtain ⟨v1, vs1, d1, ds1, p1, q1, rfl, rfl, rfl, h1, r1⟩ := trodAll_cons r0
  obtain ⟨rfl, rfl, rfl⟩ := trodAll_nil r1
  obtain rfl : args = #[v0, v1] := by cases args; simp_all
  obtain ⟨rfl, rfl⟩ := trodVars_none hV
  have lt0 : ∀ x ∈ p0, x.block < W.heap.size := by obtain ⟨m, hm⟩ := h0; exact DataW.trod_lt m _ _ _ hm
  have a0 := Eng.argv_of (hval 0 22 v0 rfl rfl) h0
  have lt1 : ∀ x ∈ p1, x.block < W.heap.size := by obtain ⟨m, hm⟩ := h1; exact DataW.trod_lt m _ _ _ hm
  have a1 := Eng.argv_of (hval 1 41 v1 rfl rfl) h1
  clear hA0 hval0
  refine Calls.mono (kclones_walk W (laid_kc hL) v0 a0 v1 a1) fun e W' ⟨v, he, hv, hm⟩ => ?_
  subst he
  subst hv
  have bel := hm.below
  exact ⟨_, rfl, _, _, _, [], _, [], hW', trodAll_mk1 (shut_bool Tryd.underlying4 _), (trodAll_cons_mk (Below.trod laidOut (by kernel_rfl) (of_decide_eq_true (by kernel_rfl)) h0 bel lt0) (trodAll_cons_mk (Below.trod laidOut (by kernel_rfl) (of_decide_eq_true (by kernel_rfl)) h1 bel lt1) trodAll_mk0)), rfl, bel.frame _, fun h => by cases h⟩

theorem over : Rows.keyringClonesRow.holds Tryd.pinned (OpenSpec.ofChange Rows.keyringClonesSpec) :=
  OpenClaim.holds_of_wide 7 Tryd.f7 rfl rfl rfl rfl rfl rfl rfl ⟨rfl, rfl, rfl, rfl, rfl⟩ rfl rfl rfl rfl rfl (by kernel_rfl) Tryd.func7 (by kernel_rfl)
    (of_decide_eq_true (by kernel_rfl)) (by unfold Func.isWrapper; first | (rw [if_pos (by decide +kernel)]; kernel_rfl) | (rw [if_neg (by decide +kernel)]; exact ⟨rfl, rfl⟩))
    (fun os started H enc _ => lifted os started H enc)
end keyringClones
/-- the statement: the tied card -/
theorem keyringClones_holds : Rows.KeyringClonesCardSaid :=
  Claim7.holds_tied_plain_at .later [] [.data] true (true, "c0ab8a36735131c8a9cd87cc07d7b40f6a8e739a1cb5823313f320602ea95481") false
    keyringClones.over (fun _ h => by cases h) (by kernel_rfl) (fun _ h => by cases h) keyringClones_row_tie rfl ⟨rfl, rfl⟩ (by kernel_rfl) rfl
    (fun f fn hf hfn => by
      obtain rfl : f = 7 := Option.some.inj ((show Tryd.prog.funcNamed "bulletin/bulletinlaw19.KeyringClones" = some 7 by kernel_rfl).symm.trans hf) |>.symm
      obtain rfl : fn = Tryd.f7 := (Option.some.inj (Tryd.func7.symm.trans hfn)).symm
      exact ⟨by kernel_rfl, fun j t ht => by
        rw [Tryd.params7] at ht
        have ht := List.mem_of_getElem? (by simpa using ht)
        have key : ∀ t ∈ ([22, 41] : List TypeId), Tryd.prog.wantsStandIn t = false := by
          intro t ht
          simp only [List.mem_cons, List.not_mem_nil, or_false] at ht
          rcases ht with rfl | rfl <;> kernel_rfl
        exact key t (by simpa using ht)⟩)
    (by kernel_rfl)
#print axioms keyringClones_holds
end Go.Proofs.YtbkgibgomohdjaaDoor
