/-
  MsgidShortens returns true. No condition.
-/
import Derived.Test.YtkmgmdgkphckgaaRows
import Derived.Test.YtkmgmdgkphckgaaShorten
namespace Go.Proofs.Ytkmgmdgkphckgaa
open Go.Eng Go.RowKit

theorem shortens_walk (w : World) (v0 : Value) (a0 : ArgV Try.prog w 23 v0) (v1 : Value) (a1 : ArgV Try.prog w 45 v1) :
    Ret Try.prog 9 #[v0, v1] w fun r w' => r = .bool true ∧ Mod [] w w' := by
  obtain ⟨a, ha, rfl⟩ := argv_bytes a0 Try.underlying23 Try.underlying5 (by kernel_rfl) (by kernel_rfl)
  obtain ⟨ad, n, cap, L0, rfl, hnc, hcm, hs0⟩ := argv_sl (enc := encI) (sz := 32) a1 Try.underlying45 (by kernel_rfl) (by decide) fit_id
  unfold maxLen at hcm
  have hs1 := hs0.take (k := min n 20) (by omega)
  generalize L0.take (min n 20) = L at hs1
  have hla : (hexL a).length = 64 := by rw [hexL_len]; omega
  refine Ret.enter (n := 58) (args := [idV a, .slice ad n cap]) Try.func9 rfl rfl ?_
  refine C.keep [(0, _), (1, _)] ⟨rfl, rfl, trivial⟩ ?_
  refine C.seq ?_
  refine C.region ?_
  refine R.boxA rfl rfl ?_
  intro b2 w2 n2
  refine R.ev rfl (E.assign rfl) ?_
  refine R.done ?_
  refine X.keep [(1, _), (2, _)] ⟨rfl, rfl, trivial⟩ ?_
  refine X.next ?_
  refine C.seq ?_
  refine C.region ?_
  refine R.ev rfl (E.move rfl) ?_
  refine R.ev rfl (E.move rfl) ?_
  refine R.ev rfl (E.lenSl rfl Try.underlying45) ?_
  refine R.ev rfl (E.min2 rfl rfl) ?_
  refine R.ev rfl (E.sliceH (b := min n 20) rfl rfl Try.underlying45 Try.sz23 (by omega) (by omega)) ?_
  refine R.ev rfl (E.assign rfl) ?_
  refine R.done ?_
  refine X.keep [(1, _), (2, _)] ⟨rfl, rfl, trivial⟩ ?_
  refine X.next ?_
  refine C.seq ?_
  refine C.region ?_
  have hat2 := n2.blk.at
  refine R.ev rfl (E.loadRow rfl Try.underlying23 rfl Try.sz23 (by assumption) (by first | rfl | exact len_ub (by assumption) | simp [*])) ?_
  refine R.ev rfl (E.move rfl) ?_
  refine R.call ⟨_, _, Try.func26, rfl, by kernel_rfl⟩ rfl rfl (shorten_any a ad (min n 20) _ L _ ha (hs1.keep0 n2.mod) (by omega)) ?_
  rintro v3 w3 ⟨hv3, m3⟩
  obtain ⟨sl, er, rfl, hse⟩ : ∃ (sl : List UInt8) (er : Int), v3 = .tuple #[str sl, .int .i64 er] ∧ (er = 0 → resolveR sl L = (a, 0)) ∧ sl.length ≤ 64 := by
    rcases hv3 with ⟨_, rfl⟩ | ⟨hin, m, ⟨hm4, hm64, hmin⟩, rfl⟩
    · exact ⟨_, _, rfl, (fun h => absurd h (by decide)), by simp⟩
    · exact ⟨_, _, rfl, fun _ => (resolve_in ha hm4 hm64 hin).2 ((hmin m hm4 hm64).1 (Nat.le_refl _)), by simp; omega⟩
  have hm3 := n2.mod.tr m3
  have hat3 := hat2.keep m3 (by simp)
  refine R.ev rfl (E.move rfl) ?_
  refine R.ev rfl (E.extract rfl rfl) ?_
  refine R.ev rfl (E.extract rfl rfl) ?_
  refine R.ev rfl (E.assign rfl) ?_
  refine R.ev rfl (E.assign rfl) ?_
  refine R.done ?_
  refine X.keep [(1, _), (2, _), (5, _), (6, _)] ⟨rfl, rfl, rfl, rfl, trivial⟩ ?_
  refine X.next ?_
  refine C.seq ?_
  refine C.drawn (fun w' => Mod [] w3 w') [0, 1, 4, 5, 6, 7, 8] (by kernel_rfl) ?_
  have hS3 : (fun w' => Mod [] w3 w') _ := Mod.drew _ _
  dsimp only at hS3
  refine D.ev 0 rfl (by kernel_rfl) rfl hS3 (fun _ hS => E.loadRow rfl Try.underlying23 rfl Try.sz23 (hat3.keep hS (by simp)) (len_ub ha)) ?_
  refine D.ev 1 rfl (by kernel_rfl) rfl hS3 (fun _ hS => E.move rfl) ?_
  refine D.act 2 rfl (by kernel_rfl) ?_
  refine R.call ⟨_, _, Try.func25, rfl, by kernel_rfl⟩ rfl rfl (to_any ad (min n 20) _ L _ (hs1.keep0 (hm3.tr hS3)) (by omega)) ?_
  rintro _ w4 ⟨⟨ad4, cap4, rfl, hc4, hs4⟩, m4⟩
  have hSa := hS3.tr m4
  refine D.back hSa ?_
  refine D.act 3 rfl (by kernel_rfl) ?_
  refine R.call ⟨_, _, Try.func27, rfl, by kernel_rfl⟩ rfl rfl (refShorten_out a ad4 (min n 20) _ L _ ha hs4 (by omega) _ hv3) ?_
  rintro _ w5 ⟨rfl, m5⟩
  have hSb := hSa.tr m5
  refine D.back hSb ?_
  refine D.ev 4 rfl (by kernel_rfl) rfl hSb (fun _ hS => E.move rfl) ?_
  refine D.ev 5 rfl (by kernel_rfl) rfl hSb (fun _ hS => E.extract rfl rfl) ?_
  refine D.ev 6 rfl (by kernel_rfl) rfl hSb (fun _ hS => E.extract rfl rfl) ?_
  refine D.ev 7 rfl (by kernel_rfl) rfl hSb (fun _ hS => E.assign rfl) ?_
  refine D.ev 8 rfl (by kernel_rfl) rfl hSb (fun _ hS => E.assign rfl) ?_
  refine D.done rfl (by kernel_rfl) ?_
  refine X.keep [(1, _), (2, _), (5, _), (6, _), (7, _), (8, _)] ⟨rfl, rfl, rfl, rfl, rfl, rfl, trivial⟩ ?_
  refine X.next ?_
  refine C.seq ?_
  refine C.seq ?_
  refine C.region ?_
  refine R.call ⟨_, _, Try.func15, rfl, by kernel_rfl⟩ rfl rfl (known_any _) ?_
  rintro _ w6 ⟨rfl, m6⟩
  refine R.ev rfl (E.notT rfl) ?_
  refine R.ev rfl (E.move rfl) ?_
  refine R.gyes rfl rfl ?_
  refine R.ev rfl (E.move rfl) ?_
  refine R.gyes rfl rfl ?_
  refine R.ev rfl (E.move rfl) ?_
  refine R.gyes rfl rfl ?_
  refine R.ev rfl ((E.sneq rfl rfl).isF (by simp)) ?_
  refine R.ev rfl (E.pickF rfl rfl) ?_
  refine R.ev rfl (E.move rfl) ?_
  refine R.gyes rfl rfl ?_
  refine R.ev rfl (E.move rfl) ?_
  refine R.gyes rfl rfl ?_
  refine R.ev rfl (E.move rfl) ?_
  refine R.gyes rfl rfl ?_
  refine R.ev rfl ((E.neq rfl rfl).isF (by simp)) ?_
  refine R.ev rfl (E.pickF rfl rfl) ?_
  refine R.done ?_
  refine X.keep [(1, _), (2, _), (5, _), (6, _), (40, _)] ⟨rfl, rfl, rfl, rfl, rfl, trivial⟩ ?_
  refine X.next ?_
  refine C.cfalse rfl ?_
  refine C.skip ?_
  refine X.next ?_
  refine C.seq ?_
  refine C.region ?_
  have hm6 := (hm3.tr hSb).tr m6
  have hrl := resolveR_len (p := sl) (L := L) hs1.size
  refine R.ev rfl (E.move rfl) ?_
  refine R.ev rfl (E.move rfl) ?_
  refine R.call ⟨_, _, Try.func23, rfl, by kernel_rfl⟩ rfl rfl (resolve_any sl ad (min n 20) _ L _ (by omega) (hs1.keep0 hm6) (by omega)) ?_
  rintro _ w7 ⟨rfl, m7⟩
  have hse1 := hse.1
  generalize hR : resolveR sl L = rr at hrl hse1 ⊢
  refine R.ev rfl (E.move rfl) ?_
  refine R.ev rfl (E.extract rfl rfl) ?_
  refine R.ev rfl (E.extract rfl rfl) ?_
  refine R.allocA Try.zr23 rfl ?_
  intro b9 w9 n9
  refine R.storeAll rfl rfl Try.sz23 (n9.blk) (by first | rfl | exact len_ub (by assumption) | simp [*]) (by first | rfl | exact len_ub (by assumption) | simp [*]) (by first | exact ub_all _ | simp [Value.oneCell']) ?_
  intro w8 k8 m8 s8
  have hge9 := n9.ge
  have hsz7 := m7.size
  have hm8 : Mod [] w6 w8 := (m7.tr n9.mod).tr' m8 (by intro x hx; simp at hx; subst hx; omega)
  have hat9 := k8.at
  have hat28 : At w8 b2 0 (a.map ub) := ((hat3.keep hSb (by simp)).keep m6 (by simp)).keep hm8 (by simp)
  refine R.ev rfl (E.assign rfl) ?_
  refine R.done ?_
  refine X.keep [(2, _), (6, _), (9, _), (10, _)] ⟨rfl, rfl, rfl, rfl, trivial⟩ ?_
  refine X.next ?_
  refine C.seq ?_
  refine C.region ?_
  refine R.ev rfl (E.move rfl) ?_
  refine R.ev rfl (E.neq rfl rfl) ?_
  refine R.ev rfl (E.move rfl) ?_
  refine R.split 49 rfl (fun h49 => ?_) (fun h49 => ?_)
  · refine R.gskip rfl rfl rfl ?_
    refine R.gskip rfl rfl rfl ?_
    refine R.gskip rfl rfl rfl ?_
    refine R.gundef rfl rfl ?_
    refine R.gundef rfl rfl ?_
    refine R.gundef rfl rfl ?_
    refine R.gskip rfl rfl rfl ?_
    refine R.ev rfl (E.pickT rfl rfl) ?_
    refine R.ev rfl (E.assign rfl) ?_
    refine R.done ?_
    refine X.keep [(4, _)] ⟨rfl, trivial⟩ ?_
    refine X.next ?_
    refine C.ret ?_
    refine X.ret1 rfl rfl ?_
    refine ⟨?_, hm6.tr hm8⟩
    obtain ⟨r1, r2⟩ := rr
    simp_all
  · refine R.gyes rfl rfl ?_
    refine R.ev rfl (E.move rfl) ?_
    refine R.gyes rfl rfl ?_
    refine R.ev rfl (E.eql rfl rfl) ?_
    refine R.gyes rfl rfl ?_
    refine R.ev rfl (E.move rfl) ?_
    refine R.split 52 rfl (fun h52 => ?_) (fun h52 => ?_)
    · refine R.gyes rfl rfl ?_
      refine R.ev rfl (E.loadRow rfl Try.underlying23 rfl Try.sz23 (by assumption) (by first | rfl | exact len_ub (by assumption) | simp [*])) ?_
      refine R.gyes rfl rfl ?_
      refine R.ev rfl (E.loadRow rfl Try.underlying23 rfl Try.sz23 (by assumption) (by first | rfl | exact len_ub (by assumption) | simp [*])) ?_
      refine R.gyes rfl rfl ?_
      refine R.ev rfl (E.eqId 10 32 rfl rfl Try.lv23 rfl Try.underlying23 rfl Try.gd23 (by assumption) (by assumption)) ?_
      refine R.gyes rfl rfl ?_
      refine R.ev rfl (E.pickT rfl rfl) ?_
      refine R.ev rfl (E.pickF rfl rfl) ?_
      refine R.ev rfl (E.assign rfl) ?_
      refine R.done ?_
      refine X.keep [(4, _)] ⟨rfl, trivial⟩ ?_
      refine X.next ?_
      refine C.ret ?_
      refine X.ret1 rfl rfl ?_
      refine ⟨?_, hm6.tr hm8⟩
      obtain ⟨r1, r2⟩ := rr
      simp_all
    · refine R.gskip rfl rfl rfl ?_
      refine R.gskip rfl rfl rfl ?_
      refine R.gskip rfl rfl rfl ?_
      refine R.gyes rfl rfl ?_
      refine R.ev rfl (E.pickF rfl rfl) ?_
      refine R.ev rfl (E.pickF rfl rfl) ?_
      refine R.ev rfl (E.assign rfl) ?_
      refine R.done ?_
      refine X.keep [(4, _)] ⟨rfl, trivial⟩ ?_
      refine X.next ?_
      refine C.ret ?_
      refine X.ret1 rfl rfl ?_
      refine ⟨?_, hm6.tr hm8⟩
      obtain ⟨r1, r2⟩ := rr
      simp_all

namespace msgidShortens
open Go.ChangeShapes Go.WideShapes Go.ChangeAt Go.RowKit
open Go.ChangeMaps (open_string shut_string)
set_option linter.unusedVariables false

theorem own : ownKnob Try.prog.godebug = none := by kernel_rfl
theorem laidOut : laidOutB Try.prog = true := by kernel_rfl
set_option maxRecDepth 100000 in
theorem lifted (os : Os) (started : os.Started) (H : Type) (enc : TypeId × Value → H) :
    ReturnsInHanded {} Try.checked os 9 .any (Rows.msgidShortensSpec.pre6 enc Try.prog Try.f9 Rows.msgidShortensRow.domain false) (Rows.msgidShortensSpec.post enc Try.prog Try.f9 false true false false) := by
  refine returnsInHanded_of_change (C := Try.checked) own started (by kernel_rfl) Try.func9
    (ChangeSpec.witness6 (enc := enc) (C := Try.checked) false ⟨#[], #[.agg #[.int .u8 0, .int .u8 0, .int .u8 0, .int .u8 0, .int .u8 0, .int .u8 0, .int .u8 0, .int .u8 0, .int .u8 0, .int .u8 0, .int .u8 0, .int .u8 0, .int .u8 0, .int .u8 0, .int .u8 0, .int .u8 0, .int .u8 0, .int .u8 0, .int .u8 0, .int .u8 0, .int .u8 0, .int .u8 0, .int .u8 0, .int .u8 0, .int .u8 0, .int .u8 0, .int .u8 0, .int .u8 0, .int .u8 0, .int .u8 0, .int .u8 0, .int .u8 0], .slice none 0 0], []⟩ 8 (by kernel_rfl) (by kernel_rfl) (by kernel_rfl) (by kernel_rfl)) ?_
  intro W base args ds gs before hval0 hW hcnd _
  have hval : ∀ (j : Nat) t v, Try.f9.params[j]? = some t → args[j]? = some v → Value.okWide Try.prog W .any base t v := hval0
  have hW' := hW
  obtain ⟨p, q, hA0, hV, rfl, hfz, hnd⟩ := hW
  have hA : DataW.TrodAll enc Try.prog W 0 (fun _ => true) true Try.f9.params.toList args.toList ds p := hA0
  rw [Try.params9] at hA hval
  obtain ⟨v0, vs0, d0, ds0, p0, q0, hargs, rfl, rfl, h0, r0⟩ := trodAll_cons hA
  obtain ⟨v1, vs1, d1, ds1, p1, q1, rfl, rfl, rfl, h1, r1⟩ := trodAll_cons r0
  obtain ⟨rfl, rfl, rfl⟩ := trodAll_nil r1
  obtain rfl : args = #[v0, v1] := by cases args; simp_all
  obtain ⟨rfl, rfl⟩ := trodVars_none hV
  have lt0 : ∀ x ∈ p0, x.block < W.heap.size := by obtain ⟨m, hm⟩ := h0; exact DataW.trod_lt m _ _ _ hm
  have a0 := Eng.argv_of (hval 0 23 v0 rfl rfl) h0
  have lt1 : ∀ x ∈ p1, x.block < W.heap.size := by obtain ⟨m, hm⟩ := h1; exact DataW.trod_lt m _ _ _ hm
  have a1 := Eng.argv_of (hval 1 45 v1 rfl rfl) h1
  clear hA0 hval0
  refine Calls.mono (shortens_walk W v0 a0 v1 a1) fun e W' ⟨v, he, hv, hm⟩ => ?_
  subst he
  subst hv
  have bel := hm.below
  exact ⟨_, rfl, _, _, _, [], _, [], hW', trodAll_mk1 (shut_bool Try.underlying4 _), (trodAll_cons_mk (Below.trod laidOut (by kernel_rfl) (of_decide_eq_true (by kernel_rfl)) h0 bel lt0) (trodAll_cons_mk (Below.trod laidOut (by kernel_rfl) (of_decide_eq_true (by kernel_rfl)) h1 bel lt1) trodAll_mk0)), rfl, bel.frame _, fun h => by cases h⟩

theorem over : Rows.msgidShortensRow.holds Try.pinned (OpenSpec.ofChange Rows.msgidShortensSpec) :=
  OpenClaim.holds_of_wide 9 Try.f9 rfl rfl rfl rfl rfl rfl rfl ⟨rfl, rfl, rfl, rfl, rfl⟩ rfl rfl rfl rfl rfl (by kernel_rfl) Try.func9 (by kernel_rfl)
    (of_decide_eq_true (by kernel_rfl)) (by unfold Func.isWrapper; first | (rw [if_pos (by decide +kernel)]; kernel_rfl) | (rw [if_neg (by decide +kernel)]; exact ⟨rfl, rfl⟩))
    (fun os started H enc _ => lifted os started H enc)
end msgidShortens
/-- the statement -/
theorem msgidShortens_holds : Rows.MsgidShortensSaid := msgidShortens.over
#print axioms msgidShortens_holds
end Go.Proofs.Ytkmgmdgkphckgaa
