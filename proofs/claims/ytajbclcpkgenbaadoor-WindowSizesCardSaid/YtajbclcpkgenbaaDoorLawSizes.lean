/-
  WindowSizes returns true for every number: New and Resize accept the sizes from 1 to 64 and no others. No condition but the listed table (tied to the program's text).
-/
import Derived.Test.YtajbclcpkgenbaaDoorWinL
namespace Go.Proofs.YtajbclcpkgenbaaDoor
open Go.Eng Go.RowKit

theorem sizes_walk (w : World) (hC : HasChg (Kn.of w)) (v : Value) (a : ArgV Tryd.prog w 3 v) : Ret Tryd.prog 4 #[v] w fun r w' => r = .bool true ∧ Mod [] w w' := by
  obtain ⟨n, rfl, hwf⟩ := argv_int a Tryd.underlying3
  have hs := Sat.start w
  refine Ret.enter (n := 76) (args := [.int .i64 n]) Tryd.func4 rfl rfl ?_
  refine C.keep [(0, _)] ⟨rfl, trivial⟩ ?_
  refine C.seq ?_
  refine C.region ?_
  refine R.ev rfl (E.assign rfl) ?_
  refine R.done ?_
  refine X.keep [(0, _)] ⟨rfl, trivial⟩ ?_
  refine X.next ?_
  refine C.seq ?_
  refine C.seq ?_
  refine C.region ?_
  refine R.call ⟨_, _, Tryd.func12, rfl, by kernel_rfl⟩ rfl rfl (known_any hs) ?_
  rintro _ w1 ⟨rfl, hs⟩
  refine R.ev rfl (E.notT rfl) ?_
  refine R.done ?_
  refine X.keep [(0, _), (9, _)] ⟨rfl, rfl, trivial⟩ ?_
  refine X.next ?_
  refine C.cfalse rfl ?_
  refine C.skip ?_
  refine X.next ?_
  refine C.seq ?_
  refine C.region ?_
  refine R.ev rfl (E.move rfl) ?_
  refine R.call ⟨_, _, Tryd.func13, rfl, by kernel_rfl⟩ rfl rfl (new_any n hs) ?_
  rintro _ w3 hN
  rcases hN with ⟨hz, rfl, hs⟩ | ⟨hz, p, F, rfl, hw, hs⟩
  · refine R.ev rfl (E.move rfl) ?_
    refine R.ev rfl (E.extract rfl rfl) ?_
    refine R.ev rfl (E.extract rfl rfl) ?_
    refine R.ev rfl (E.assign rfl) ?_
    refine R.ev rfl (E.assign rfl) ?_
    refine R.done ?_
    refine X.keep [(0, _), (3, _), (4, _)] ⟨rfl, rfl, rfl, trivial⟩ ?_
    refine X.next ?_
    refine C.seq ?_
    refine C.region ?_
    refine R.call ⟨_, _, Tryd.func13, rfl, by kernel_rfl⟩ rfl rfl (new_any 7 hs) ?_
    rintro _ w4 (⟨h, _⟩ | ⟨_, q, G, rfl, hw7, hs⟩)
    · exact absurd h (by decide)
    refine R.ev rfl (E.move rfl) ?_
    refine R.ev rfl (E.extract rfl rfl) ?_
    refine R.ev rfl (E.extract rfl rfl) ?_
    refine R.ev rfl (E.assign rfl) ?_
    refine R.ev rfl (E.assign rfl) ?_
    refine R.done ?_
    refine X.keep [(0, _), (3, _), (4, _), (5, _), (6, _)] ⟨rfl, rfl, rfl, rfl, rfl, trivial⟩ ?_
    refine X.next ?_
    refine C.seq ?_
    refine C.region ?_
    refine R.ev rfl (E.move rfl) ?_
    refine R.ev rfl (E.move rfl) ?_
    refine R.call ⟨_, _, Tryd.func21, rfl, by kernel_rfl⟩ rfl rfl (resize_any n (hs.front (F := G))) ?_
    rintro _ w5 ⟨rfl, G5, hw5, hs1⟩
    have hs := hs.back (F := G) hs1
    refine R.ev rfl (E.assign rfl) ?_
    refine R.done ?_
    refine X.keep [(0, _), (3, _), (4, _), (5, _), (6, _), (7, _)] ⟨rfl, rfl, rfl, rfl, rfl, rfl, trivial⟩ ?_
    refine X.next ?_
    refine C.seq ?_
    refine C.seq ?_
    refine C.region ?_
    refine R.ev rfl (E.move rfl) ?_
    refine R.ev rfl (E.lss rfl rfl) ?_
    refine R.ev rfl (E.move rfl) ?_
    refine R.split 24 rfl (fun h24 => ?_) (fun h24 => ?_)
    · refine R.gskip rfl rfl rfl ?_
      refine R.gskip rfl rfl rfl ?_
      refine R.ev rfl (E.pickT rfl rfl) ?_
      refine R.done ?_
      refine X.keep [(0, _), (3, _), (4, _), (5, _), (6, _), (7, _), (27, _)] ⟨rfl, rfl, rfl, rfl, rfl, rfl, rfl, trivial⟩ ?_
      refine X.next ?_
      refine C.ctrue rfl ?_
      refine C.seq ?_
      refine C.region ?_
      refine R.ev rfl (E.move rfl) ?_
      refine R.ev rfl (E.eqlNilT rfl rfl Tryd.underlying25) ?_
      refine R.ev rfl (E.move rfl) ?_
      refine R.gyes rfl rfl ?_
      refine R.ev rfl (E.move rfl) ?_
      refine R.gyes rfl rfl ?_
      refine R.ev rfl ((E.eql rfl rfl).isT (by decide)) ?_
      refine R.ev rfl (E.pickT rfl rfl) ?_
      refine R.ev rfl (E.move rfl) ?_
      refine R.gyes rfl rfl ?_
      refine R.ev rfl (E.move rfl) ?_
      refine R.gyes rfl rfl ?_
      refine R.ev rfl ((E.eql rfl rfl).isT (by decide)) ?_
      refine R.ev rfl (E.pickT rfl rfl) ?_
      refine R.ev rfl (E.move rfl) ?_
      refine R.gyes rfl rfl ?_
      refine R.ev rfl (E.move rfl) ?_
      refine R.gyes rfl rfl ?_
      refine R.ev rfl ((E.eql rfl rfl).isT (by simp [resizeE, hz])) ?_
      refine R.ev rfl (E.pickT rfl rfl) ?_
      refine R.ev rfl (E.move rfl) ?_
      refine R.gyes rfl rfl ?_
      refine R.ev rfl (E.move rfl) ?_
      refine R.gyes rfl rfl ?_
      refine R.call ⟨_, _, Tryd.func22, rfl, by kernel_rfl⟩ rfl rfl (size_any hs) ?_
      rintro _ w7 ⟨rfl, hs⟩
      refine R.gyes rfl rfl ?_
      refine R.ev rfl ((E.eql rfl rfl).isT (by simp [resizeS, hz])) ?_
      refine R.ev rfl (E.pickT rfl rfl) ?_
      refine R.ev rfl (E.assign rfl) ?_
      refine R.done ?_
      refine X.keep [(2, _)] ⟨rfl, trivial⟩ ?_
      refine X.next ?_
      refine C.ret ?_
      refine X.thenRet ?_
      refine X.ret1 rfl rfl ?_
      exact ⟨rfl, hs.mod⟩
    · refine R.gyes rfl rfl ?_
      refine R.ev rfl (E.move rfl) ?_
      refine R.gyes rfl rfl ?_
      refine R.ev rfl ((E.gtr rfl rfl).isT (by simp [isSz] at hz h24; omega)) ?_
      refine R.ev rfl (E.pickF rfl rfl) ?_
      refine R.done ?_
      refine X.keep [(0, _), (3, _), (4, _), (5, _), (6, _), (7, _), (27, _)] ⟨rfl, rfl, rfl, rfl, rfl, rfl, rfl, trivial⟩ ?_
      refine X.next ?_
      refine C.ctrue rfl ?_
      refine C.seq ?_
      refine C.region ?_
      refine R.ev rfl (E.move rfl) ?_
      refine R.ev rfl (E.eqlNilT rfl rfl Tryd.underlying25) ?_
      refine R.ev rfl (E.move rfl) ?_
      refine R.gyes rfl rfl ?_
      refine R.ev rfl (E.move rfl) ?_
      refine R.gyes rfl rfl ?_
      refine R.ev rfl ((E.eql rfl rfl).isT (by decide)) ?_
      refine R.ev rfl (E.pickT rfl rfl) ?_
      refine R.ev rfl (E.move rfl) ?_
      refine R.gyes rfl rfl ?_
      refine R.ev rfl (E.move rfl) ?_
      refine R.gyes rfl rfl ?_
      refine R.ev rfl ((E.eql rfl rfl).isT (by decide)) ?_
      refine R.ev rfl (E.pickT rfl rfl) ?_
      refine R.ev rfl (E.move rfl) ?_
      refine R.gyes rfl rfl ?_
      refine R.ev rfl (E.move rfl) ?_
      refine R.gyes rfl rfl ?_
      refine R.ev rfl ((E.eql rfl rfl).isT (by simp [resizeE, hz])) ?_
      refine R.ev rfl (E.pickT rfl rfl) ?_
      refine R.ev rfl (E.move rfl) ?_
      refine R.gyes rfl rfl ?_
      refine R.ev rfl (E.move rfl) ?_
      refine R.gyes rfl rfl ?_
      refine R.call ⟨_, _, Tryd.func22, rfl, by kernel_rfl⟩ rfl rfl (size_any hs) ?_
      rintro _ w7 ⟨rfl, hs⟩
      refine R.gyes rfl rfl ?_
      refine R.ev rfl ((E.eql rfl rfl).isT (by simp [resizeS, hz])) ?_
      refine R.ev rfl (E.pickT rfl rfl) ?_
      refine R.ev rfl (E.assign rfl) ?_
      refine R.done ?_
      refine X.keep [(2, _)] ⟨rfl, trivial⟩ ?_
      refine X.next ?_
      refine C.ret ?_
      refine X.thenRet ?_
      refine X.ret1 rfl rfl ?_
      exact ⟨rfl, hs.mod⟩
  · refine R.ev rfl (E.move rfl) ?_
    refine R.ev rfl (E.extract rfl rfl) ?_
    refine R.ev rfl (E.extract rfl rfl) ?_
    refine R.ev rfl (E.assign rfl) ?_
    refine R.ev rfl (E.assign rfl) ?_
    refine R.done ?_
    refine X.keep [(0, _), (3, _), (4, _)] ⟨rfl, rfl, rfl, trivial⟩ ?_
    refine X.next ?_
    refine C.seq ?_
    refine C.region ?_
    refine R.call ⟨_, _, Tryd.func13, rfl, by kernel_rfl⟩ rfl rfl (new_any 7 hs) ?_
    rintro _ w4 (⟨h, _⟩ | ⟨_, q, G, rfl, hw7, hs⟩)
    · exact absurd h (by decide)
    refine R.ev rfl (E.move rfl) ?_
    refine R.ev rfl (E.extract rfl rfl) ?_
    refine R.ev rfl (E.extract rfl rfl) ?_
    refine R.ev rfl (E.assign rfl) ?_
    refine R.ev rfl (E.assign rfl) ?_
    refine R.done ?_
    refine X.keep [(0, _), (3, _), (4, _), (5, _), (6, _)] ⟨rfl, rfl, rfl, rfl, rfl, trivial⟩ ?_
    refine X.next ?_
    refine C.seq ?_
    refine C.region ?_
    refine R.ev rfl (E.move rfl) ?_
    refine R.ev rfl (E.move rfl) ?_
    refine R.call ⟨_, _, Tryd.func21, rfl, by kernel_rfl⟩ rfl rfl (resize_any n (hs.front (F := G))) ?_
    rintro _ w5 ⟨rfl, G5, hw5, hs1⟩
    have hs := hs.back (F := G) hs1
    refine R.ev rfl (E.assign rfl) ?_
    refine R.done ?_
    refine X.keep [(0, _), (3, _), (4, _), (5, _), (6, _), (7, _)] ⟨rfl, rfl, rfl, rfl, rfl, rfl, trivial⟩ ?_
    refine X.next ?_
    refine C.seq ?_
    refine C.seq ?_
    refine C.region ?_
    refine R.ev rfl (E.move rfl) ?_
    refine R.ev rfl ((E.lss rfl rfl).isF (by simp [isSz] at hz; omega)) ?_
    refine R.ev rfl (E.move rfl) ?_
    refine R.gyes rfl rfl ?_
    refine R.ev rfl (E.move rfl) ?_
    refine R.gyes rfl rfl ?_
    refine R.ev rfl ((E.gtr rfl rfl).isF (by simp [isSz] at hz; omega)) ?_
    refine R.ev rfl (E.pickF rfl rfl) ?_
    refine R.done ?_
    refine X.keep [(0, _), (3, _), (4, _), (5, _), (6, _), (7, _), (27, _)] ⟨rfl, rfl, rfl, rfl, rfl, rfl, rfl, trivial⟩ ?_
    refine X.next ?_
    refine C.cfalse rfl ?_
    refine C.skip ?_
    refine X.next ?_
    refine C.seq ?_
    refine C.region ?_
    refine R.ev rfl (E.move rfl) ?_
    refine R.ev rfl ((E.eql rfl rfl).isT (by decide)) ?_
    refine R.ev rfl (E.move rfl) ?_
    refine R.gyes rfl rfl ?_
    refine R.ev rfl (E.move rfl) ?_
    refine R.gyes rfl rfl ?_
    refine R.call ⟨_, _, Tryd.func22, rfl, by kernel_rfl⟩ rfl rfl (size_any hs) ?_
    rintro _ w84 ⟨rfl, hs⟩
    refine R.gyes rfl rfl ?_
    refine R.ev rfl (E.move rfl) ?_
    refine R.gyes rfl rfl ?_
    refine R.ev rfl ((E.eql rfl rfl).isT rfl) ?_
    refine R.ev rfl (E.pickT rfl rfl) ?_
    refine R.ev rfl (E.move rfl) ?_
    refine R.gyes rfl rfl ?_
    refine R.ev rfl (E.move rfl) ?_
    refine R.gyes rfl rfl ?_
    refine R.call ⟨_, _, Tryd.func23, rfl, by kernel_rfl⟩ rfl rfl (room_any hs hz) ?_
    rintro _ w810 ⟨rfl, hs⟩
    refine R.gyes rfl rfl ?_
    refine R.ev rfl (E.move rfl) ?_
    refine R.gyes rfl rfl ?_
    refine R.ev rfl ((E.eql rfl rfl).isT (by simp [isSz] at hz; simp [cnt]; omega)) ?_
    refine R.ev rfl (E.pickT rfl rfl) ?_
    refine R.ev rfl (E.move rfl) ?_
    refine R.gyes rfl rfl ?_
    refine R.ev rfl (E.move rfl) ?_
    refine R.gyes rfl rfl ?_
    refine R.call ⟨_, _, Tryd.func20, rfl, by kernel_rfl⟩ rfl rfl (len_any hs) ?_
    rintro _ w816 ⟨rfl, hs⟩
    refine R.gyes rfl rfl ?_
    refine R.ev rfl ((E.eql rfl rfl).isT (by simp)) ?_
    refine R.ev rfl (E.pickT rfl rfl) ?_
    refine R.ev rfl (E.move rfl) ?_
    refine R.gyes rfl rfl ?_
    refine R.ev rfl (E.move rfl) ?_
    refine R.gyes rfl rfl ?_
    refine R.ev rfl ((E.eql rfl rfl).isT (by simp [resizeE, hz])) ?_
    refine R.ev rfl (E.pickT rfl rfl) ?_
    refine R.ev rfl (E.move rfl) ?_
    refine R.gyes rfl rfl ?_
    refine R.ev rfl (E.move rfl) ?_
    refine R.gyes rfl rfl ?_
    refine R.call ⟨_, _, Tryd.func22, rfl, by kernel_rfl⟩ rfl rfl (size_any hs) ?_
    rintro _ w825 ⟨rfl, hs⟩
    refine R.gyes rfl rfl ?_
    refine R.ev rfl (E.move rfl) ?_
    refine R.gyes rfl rfl ?_
    refine R.ev rfl ((E.eql rfl rfl).isT (by simp [resizeS, hz])) ?_
    refine R.ev rfl (E.pickT rfl rfl) ?_
    refine R.ev rfl (E.assign rfl) ?_
    refine R.done ?_
    refine X.keep [(2, _)] ⟨rfl, trivial⟩ ?_
    refine X.next ?_
    refine C.ret ?_
    refine X.ret1 rfl rfl ?_
    exact ⟨rfl, hs.mod⟩

namespace windowSizes
open Go.ChangeShapes Go.WideShapes Go.ChangeAt Go.RowKit
open Go.ChangeMaps (open_string shut_string)
set_option linter.unusedVariables false

theorem own : ownKnob Tryd.prog.godebug = none := by kernel_rfl
theorem laidOut : laidOutB Tryd.prog = true := by kernel_rfl
theorem door_met (os : Os) (args : Array Value) : laidMetH Tryd.prog Rows.windowSizesRow.laid ((World.doorLaid Tryd.prog 400 os).forCall (fun _ _ => 0) ⟨#[], args, []⟩).memory :=
  laidMetH_of_parts3 (fuel := 8) (laidMet_of_run' 8 (by kernel_rfl) (by kernel_rfl)) (by kernel_rfl) (by kernel_rfl)
set_option maxRecDepth 100000 in
theorem lifted (os : Os) (started : os.Started) (H : Type) (enc : TypeId × Value → H) :
    ReturnsInHanded {} Tryd.checked os 4 .any (fun w args => (Rows.windowSizesSpec.pre enc Tryd.prog Tryd.f4 [] false w args ∧ laidMetH Tryd.prog Rows.windowSizesRow.laid w) ∧ sizedMet enc Tryd.prog Tryd.f4 (OpenSpec.ofChange Rows.windowSizesSpec) false w args)
      (Rows.windowSizesSpec.post enc Tryd.prog Tryd.f4 false true false false) := by
  refine returnsInHanded_of_change_and (C := Tryd.checked) (X := fun w _ => laidMetH Tryd.prog Rows.windowSizesRow.laid w) (fun _ _ _ hh h => h.of_heap hh) own started (by kernel_rfl) Tryd.func4
    (ChangeSpec.witness_shaped (enc := enc) (C := Tryd.checked) (os := os) (X := fun w _ => laidMetH Tryd.prog Rows.windowSizesRow.laid w) false (World.doorLaid Tryd.prog 400 os) #[.int .i64 0] 8 rfl (World.shaped_of_RefB (by kernel_rfl) (by kernel_rfl)) (by kernel_rfl) (by kernel_rfl) (by kernel_rfl) (door_met os _)) ?_
  intro W base args ds gs before hval0 hW _ _ hL _
  have hval : ∀ (j : Nat) t v, Tryd.f4.params[j]? = some t → args[j]? = some v → Value.okWide Tryd.prog W .any base t v := hval0
  have hW' := hW
  obtain ⟨p, q, hA0, hV, rfl, hfz, hnd⟩ := hW
  have hA : DataW.TrodAll enc Tryd.prog W 0 (fun _ => true) true Tryd.f4.params.toList args.toList ds p := hA0
  rw [Tryd.params4] at hA hval
  obtain ⟨v0, vs0, d0, ds0, p0, q0, hargs, rfl, rfl, h0, r0⟩ := trodAll_cons hA
  obtain ⟨rfl, rfl, rfl⟩ := trodAll_nil r0
  obtain rfl : args = #[v0] := by cases args; simp_all
  obtain ⟨rfl, rfl⟩ := trodVars_none hV
  have lt0 : ∀ x ∈ p0, x.block < W.heap.size := by obtain ⟨m, hm⟩ := h0; exact DataW.trod_lt m _ _ _ hm
  have a0 := Eng.argv_of (hval 0 3 v0 rfl rfl) h0
  clear hA0 hval0
  refine Calls.mono (sizes_walk W (laid_chg hL) v0 a0) fun e W' ⟨v, he, hv, hm⟩ => ?_
  subst he
  subst hv
  have bel := hm.below
  exact ⟨_, rfl, _, _, _, [], _, [], hW', trodAll_mk1 (shut_bool Tryd.underlying4 _), (trodAll_cons_mk (Below.trod laidOut (by kernel_rfl) (of_decide_eq_true (by kernel_rfl)) h0 bel lt0) trodAll_mk0), rfl, bel.frame _, fun h => by cases h⟩

theorem over : Rows.windowSizesRow.holds Tryd.pinned (OpenSpec.ofChange Rows.windowSizesSpec) :=
  OpenClaim.holds_of_wide 4 Tryd.f4 rfl rfl rfl rfl rfl rfl rfl ⟨rfl, rfl, rfl, rfl, rfl⟩ rfl rfl rfl rfl rfl (by kernel_rfl) Tryd.func4 (by kernel_rfl)
    (of_decide_eq_true (by kernel_rfl)) (by unfold Func.isWrapper; first | (rw [if_pos (by decide +kernel)]; kernel_rfl) | (rw [if_neg (by decide +kernel)]; exact ⟨rfl, rfl⟩))
    (fun os started H enc _ => lifted os started H enc)
end windowSizes
/-- the statement: the tied card -/
theorem windowSizes_holds : Rows.WindowSizesCardSaid :=
  Claim7.holds_tied_plain_at .later [] [.data] true (true, "528cf9756be51d7108a31d58a47078c1c4b59c91fa320a11aaba2c24a43b3e31") false
    windowSizes.over (fun _ h => by cases h) (by kernel_rfl) (fun _ h => by cases h) windowSizes_row_tie rfl ⟨rfl, rfl⟩ (by kernel_rfl) rfl
    (fun f fn hf hfn => by
      obtain rfl : f = 4 := Option.some.inj ((show Tryd.prog.funcNamed "bulletin/bulletinlaw36.WindowSizes" = some 4 by kernel_rfl).symm.trans hf) |>.symm
      obtain rfl : fn = Tryd.f4 := (Option.some.inj (Tryd.func4.symm.trans hfn)).symm
      exact ⟨by kernel_rfl, fun j t ht => by
        rw [Tryd.params4] at ht
        have ht := List.mem_of_getElem? (by simpa using ht)
        have key : ∀ t ∈ ([3] : List TypeId), Tryd.prog.wantsStandIn t = false := by
          intro t ht
          simp only [List.mem_cons, List.not_mem_nil, or_false] at ht
          rcases ht with rfl <;> kernel_rfl
        exact key t (by simpa using ht)⟩)
    (by kernel_rfl)
#print axioms windowSizes_holds
end Go.Proofs.YtajbclcpkgenbaaDoor
