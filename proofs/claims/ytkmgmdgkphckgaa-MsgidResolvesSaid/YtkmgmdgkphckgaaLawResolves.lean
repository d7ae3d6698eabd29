/-
  MsgidResolves returns true. No condition.
-/
import Derived.Test.YtkmgmdgkphckgaaRows
import Derived.Test.YtkmgmdgkphckgaaResolve
import Derived.Test.YtkmgmdgkphckgaaKnown
namespace Go.Proofs.Ytkmgmdgkphckgaa
open Go.Eng Go.RowKit

theorem fit_id {w : World} (n : Nat) (x : List Value) (_ : x.length = 32) (h : Fit Try.prog w n 23 x) : ∃ y, x = encI y := by
  obtain ⟨a, _, h⟩ := fit_bytes h Try.underlying23 Try.underlying5 (by kernel_rfl) (by kernel_rfl)
  exact ⟨a, h⟩
theorem resolveR_len {p : List UInt8} {L : List (List UInt8)} (hs : ∀ y ∈ L, (encI y).length = 32) : (resolveR p L).1.length = 32 := by
  unfold resolveR
  repeat' split
  all_goals try rfl
  rename_i h1
  obtain ⟨y, hy⟩ := List.length_eq_one_iff.1 h1
  have : y ∈ resL p L := by rw [hy]; simp
  have := hs y (resL_mem this)
  rw [hy]; simpa using this

theorem resolves_walk (w : World) (v0 : Value) (a0 : ArgV Try.prog w 9 v0) (v1 : Value) (a1 : ArgV Try.prog w 45 v1) :
    Ret Try.prog 8 #[v0, v1] w fun r w' => r = .bool true ∧ Mod [] w w' := by
  obtain ⟨l, rfl, hl⟩ := argv_str a0 Try.underlying9
  obtain ⟨ad, n, cap, L, rfl, hnc, hcm, hs⟩ := argv_sl (enc := encI) (sz := 32) a1 Try.underlying45 (by kernel_rfl) (by decide) fit_id
  unfold maxLen at hl hcm
  have hs1 := hs.take (k := min n 40) (by omega)
  refine Ret.enter (n := 43) (args := [str l, .slice ad n cap]) Try.func8 rfl rfl ?_
  refine C.keep [(0, _), (1, _)] ⟨rfl, rfl, trivial⟩ ?_
  refine C.seq ?_
  refine C.region ?_
  refine R.ev rfl (E.assign rfl) ?_
  refine R.done ?_
  refine X.keep [(0, _), (1, _)] ⟨rfl, rfl, trivial⟩ ?_
  refine X.next ?_
  refine C.seq ?_
  refine C.region ?_
  refine R.ev rfl (E.move rfl) ?_
  refine R.ev rfl (E.move rfl) ?_
  refine R.ev rfl (E.lenStr rfl Try.underlying9) ?_
  refine R.ev rfl (E.min2 rfl rfl) ?_
  refine R.ev rfl (E.ssliceH (b := min l.length 80) rfl rfl Try.underlying9 (by omega) (by omega)) ?_
  refine R.ev rfl (E.assign rfl) ?_
  refine R.done ?_
  refine X.keep [(0, _), (1, _)] ⟨rfl, rfl, trivial⟩ ?_
  refine X.next ?_
  refine C.seq ?_
  refine C.region ?_
  refine R.ev rfl (E.move rfl) ?_
  refine R.ev rfl (E.move rfl) ?_
  refine R.ev rfl (E.lenSl rfl Try.underlying45) ?_
  refine R.ev rfl (E.min2 rfl rfl) ?_
  refine R.ev rfl (E.sliceH (b := min n 40) rfl rfl Try.underlying45 Try.sz23 (by omega) (by omega)) ?_
  refine R.ev rfl (E.assign rfl) ?_
  refine R.done ?_
  refine X.keep [(0, _), (1, _)] ⟨rfl, rfl, trivial⟩ ?_
  refine X.next ?_
  refine C.seq ?_
  refine C.region ?_
  refine R.ev rfl (E.move rfl) ?_
  refine R.ev rfl (E.move rfl) ?_
  refine R.call ⟨_, _, Try.func23, rfl, by kernel_rfl⟩ rfl rfl (resolve_any (l.take (min l.length 80)) ad (min n 40) _ _ _ (by simp; omega) hs1 (by omega)) ?_
  rintro _ w2 ⟨rfl, m2⟩
  have hrl := resolveR_len (p := l.take (min l.length 80)) hs1.size
  generalize hR : resolveR (l.take (min l.length 80)) (L.take (min n 40)) = rr at hrl ⊢
  refine R.ev rfl (E.move rfl) ?_
  refine R.ev rfl (E.extract rfl rfl) ?_
  refine R.ev rfl (E.extract rfl rfl) ?_
  refine R.allocA Try.zr23 rfl ?_
  intro b5 w5 n5
  refine R.storeAll rfl rfl Try.sz23 (n5.blk) (by first | rfl | exact len_ub (by assumption) | simp [*]) (by first | rfl | exact len_ub (by assumption) | simp [*]) (by first | exact ub_all _ | simp [Value.oneCell']) ?_
  intro w6 k6 m6 s6
  have hge5 := n5.ge
  have hsz2 := m2.size
  have hm6 : Mod [] w w6 := (m2.tr n5.mod).tr' m6 (by intro x hx; simp at hx; subst hx; omega)
  have hs6 := hs1.keep0 hm6
  have hlt5 := k6.lt
  refine R.ev rfl (E.assign rfl) ?_
  refine R.done ?_
  refine X.keep [(0, _), (1, _), (5, _), (6, _)] ⟨rfl, rfl, rfl, rfl, trivial⟩ ?_
  refine X.next ?_
  refine C.seq ?_
  refine C.region ?_
  refine R.ev rfl (E.move rfl) ?_
  refine R.ev rfl (E.move rfl) ?_
  refine R.call ⟨_, _, Try.func25, rfl, by kernel_rfl⟩ rfl rfl (to_any ad (min n 40) _ _ _ hs6 (by omega)) ?_
  rintro _ w7 ⟨⟨ad7, cap7, rfl, hc7, hs7⟩, m7⟩
  refine R.call ⟨_, _, Try.func24, rfl, by kernel_rfl⟩ rfl rfl (refResolve_any (l.take (min l.length 80)) ad7 (min n 40) _ _ _ (by simp; omega) hs7 (by omega)) ?_
  rintro _ w8 ⟨rfl, m8⟩
  rw [hR]
  refine R.ev rfl (E.move rfl) ?_
  refine R.ev rfl (E.extract rfl rfl) ?_
  refine R.ev rfl (E.extract rfl rfl) ?_
  refine R.allocA Try.zr30 rfl ?_
  intro b7 w7 n7
  refine R.storeAll rfl rfl Try.sz30 (n7.blk) (by first | rfl | exact len_ub (by assumption) | simp [*]) (by first | rfl | exact len_ub (by assumption) | simp [*]) (by first | exact ub_all _ | simp [Value.oneCell']) ?_
  intro w9 k9 m9 s9
  have hge7 := n7.ge
  have hsz7 := m7.size
  have hsz8 := m8.size
  have hm9 : Mod [] w w9 := (((hm6.tr m7).tr m8).tr n7.mod).tr' m9 (by intro x hx; simp at hx; subst hx; have := hm6.size; omega)
  have hat5 : At w9 b5 0 (rr.1.map ub) := (((k6.at.keep m7 (by simp)).keep m8 (by simp)).keep n7.mod (by simp)).keep m9 (by simp; omega)
  have hat7 := k9.at
  refine R.ev rfl (E.assign rfl) ?_
  refine R.done ?_
  refine X.keep [(5, _), (6, _), (7, _), (8, _)] ⟨rfl, rfl, rfl, rfl, trivial⟩ ?_
  refine X.next ?_
  refine C.seq ?_
  refine C.region ?_
  refine R.call ⟨_, _, Try.func15, rfl, by kernel_rfl⟩ rfl rfl (known_any _) ?_
  rintro _ w10 ⟨rfl, m10⟩
  have hat5 := hat5.keep m10 (by simp)
  have hat7 := hat7.keep m10 (by simp)
  refine R.ev rfl (E.move rfl) ?_
  refine R.gyes rfl rfl ?_
  refine R.ev rfl (E.loadRow rfl Try.underlying23 rfl Try.sz23 (by assumption) (by first | rfl | exact len_ub (by assumption) | simp [*])) ?_
  refine R.gyes rfl rfl ?_
  refine R.ev rfl (E.loadRow rfl Try.underlying30 rfl Try.sz30 (by assumption) (by first | rfl | exact len_ub (by assumption) | simp [*])) ?_
  refine R.gyes rfl rfl ?_
  refine R.ev rfl ((E.eqId 10 32 rfl rfl Try.lv30 rfl Try.underlying30 rfl Try.gd30 hrl hrl).isT rfl) ?_
  refine R.ev rfl (E.pickT rfl rfl) ?_
  refine R.ev rfl (E.move rfl) ?_
  refine R.gyes rfl rfl ?_
  refine R.ev rfl (E.move rfl) ?_
  refine R.gyes rfl rfl ?_
  refine R.ev rfl (E.move rfl) ?_
  refine R.gyes rfl rfl ?_
  refine R.ev rfl ((E.eql rfl rfl).isT rfl) ?_
  refine R.ev rfl (E.pickT rfl rfl) ?_
  refine R.ev rfl (E.assign rfl) ?_
  refine R.done ?_
  refine X.keep [(4, _)] ⟨rfl, trivial⟩ ?_
  refine X.next ?_
  refine C.ret ?_
  refine X.ret1 rfl rfl ?_
  exact ⟨rfl, hm9.tr m10⟩

namespace msgidResolves
open Go.ChangeShapes Go.WideShapes Go.ChangeAt Go.RowKit
open Go.ChangeMaps (open_string shut_string)
set_option linter.unusedVariables false

theorem own : ownKnob Try.prog.godebug = none := by kernel_rfl
theorem laidOut : laidOutB Try.prog = true := by kernel_rfl
set_option maxRecDepth 100000 in
theorem lifted (os : Os) (started : os.Started) (H : Type) (enc : TypeId × Value → H) :
    ReturnsInHanded {} Try.checked os 8 .any (Rows.msgidResolvesSpec.pre6 enc Try.prog Try.f8 Rows.msgidResolvesRow.domain false) (Rows.msgidResolvesSpec.post enc Try.prog Try.f8 false true false false) := by
  refine returnsInHanded_of_change (C := Try.checked) own started (by kernel_rfl) Try.func8
    (ChangeSpec.witness6 (enc := enc) (C := Try.checked) false ⟨#[], #[.string ByteArray.empty, .slice none 0 0], []⟩ 8 (by kernel_rfl) (by kernel_rfl) (by kernel_rfl) (by kernel_rfl)) ?_
  intro W base args ds gs before hval0 hW hcnd _
  have hval : ∀ (j : Nat) t v, Try.f8.params[j]? = some t → args[j]? = some v → Value.okWide Try.prog W .any base t v := hval0
  have hW' := hW
  obtain ⟨p, q, hA0, hV, rfl, hfz, hnd⟩ := hW
  have hA : DataW.TrodAll enc Try.prog W 0 (fun _ => true) true Try.f8.params.toList args.toList ds p := hA0
  rw [Try.params8] at hA hval
  obtain ⟨v0, vs0, d0, ds0, p0, q0, hargs, rfl, rfl, h0, r0⟩ := trodAll_cons hA
  obtain ⟨v1, vs1, d1, ds1, p1, q1, rfl, rfl, rfl, h1, r1⟩ := trodAll_cons r0
  obtain ⟨rfl, rfl, rfl⟩ := trodAll_nil r1
  obtain rfl : args = #[v0, v1] := by cases args; simp_all
  obtain ⟨rfl, rfl⟩ := trodVars_none hV
  have lt0 : ∀ x ∈ p0, x.block < W.heap.size := by obtain ⟨m, hm⟩ := h0; exact DataW.trod_lt m _ _ _ hm
  have a0 := Eng.argv_of (hval 0 9 v0 rfl rfl) h0
  have lt1 : ∀ x ∈ p1, x.block < W.heap.size := by obtain ⟨m, hm⟩ := h1; exact DataW.trod_lt m _ _ _ hm
  have a1 := Eng.argv_of (hval 1 45 v1 rfl rfl) h1
  clear hA0 hval0
  refine Calls.mono (resolves_walk W v0 a0 v1 a1) fun e W' ⟨v, he, hv, hm⟩ => ?_
  subst he
  subst hv
  have bel := hm.below
  exact ⟨_, rfl, _, _, _, [], _, [], hW', trodAll_mk1 (shut_bool Try.underlying4 _), (trodAll_cons_mk (Below.trod laidOut (by kernel_rfl) (of_decide_eq_true (by kernel_rfl)) h0 bel lt0) (trodAll_cons_mk (Below.trod laidOut (by kernel_rfl) (of_decide_eq_true (by kernel_rfl)) h1 bel lt1) trodAll_mk0)), rfl, bel.frame _, fun h => by cases h⟩

theorem over : Rows.msgidResolvesRow.holds Try.pinned (OpenSpec.ofChange Rows.msgidResolvesSpec) :=
  OpenClaim.holds_of_wide 8 Try.f8 rfl rfl rfl rfl rfl rfl rfl ⟨rfl, rfl, rfl, rfl, rfl⟩ rfl rfl rfl rfl rfl (by kernel_rfl) Try.func8 (by kernel_rfl)
    (of_decide_eq_true (by kernel_rfl)) (by unfold Func.isWrapper; first | (rw [if_pos (by decide +kernel)]; kernel_rfl) | (rw [if_neg (by decide +kernel)]; exact ⟨rfl, rfl⟩))
    (fun os started H enc _ => lifted os started H enc)
end msgidResolves
/-- the statement -/
theorem msgidResolves_holds : Rows.MsgidResolvesSaid := msgidResolves.over
#print axioms msgidResolves_holds
end Go.Proofs.Ytkmgmdgkphckgaa
