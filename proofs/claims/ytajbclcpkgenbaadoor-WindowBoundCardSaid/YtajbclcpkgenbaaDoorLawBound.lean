/-
  WindowBound returns true for every number and every list of operations. No condition but the listed table (tied to the program's text).
-/
import Derived.Test.YtajbclcpkgenbaaDoorWinB
namespace Go.Proofs.YtajbclcpkgenbaaDoor
open Go.Eng Go.RowKit

theorem cnt_setOut (a : Vec 32) (m : Int) : ∀ (L : List Off), answerE L a m = 0 → cnt (setOut a m L) ≤ cnt L := by
  intro L
  induction L with
  | nil => intro _; simp [setOut, cnt]
  | cons o L ih =>
    intro h
    unfold setOut
    by_cases ho : isId a o = true
    · rw [if_pos ho]
      have hf : (o :: L).find? (isId a) = some o := by simp [List.find?_cons, ho]
      simp only [answerE, hf] at h
      split at h
      · simp at h
      · split at h
        · rename_i hm
          have h1 : o.out.1 < 2 := by
            rcases Nat.lt_or_ge o.out.1 2 with h' | h'
            · exact h'
            · exfalso
              have h6 := o.out.2
              have : ∀ i j : Fin 6, 2 ≤ i.1 → may i.1 j.1 = false := by decide
              have hj : m.toNat < 6 := by omega
              have := this o.out ⟨m.toNat, hj⟩ h'
              simp only at this
              rw [this] at hm; cases hm
          have h2 : o.outs = true := by simpa [Off.outs] using h1
          simp only [cnt, List.filter_cons, h2, if_true]
          split <;> simp
        · simp at h
    · rw [if_neg ho]
      have hf : (o :: L).find? (isId a) = L.find? (isId a) := by rw [List.find?_cons_of_neg ho]
      have := ih (by simpa only [answerE, hf] using h)
      simp only [cnt, List.filter_cons] at this ⊢
      split
      · simp; exact this
      · exact this
theorem cnt_sub {L L' : List Off} (h : L'.Sublist L) : cnt L' ≤ cnt L := (h.filter _).length_le
theorem pL_cnt {sz : Int} {L : List Off} (y : Op36) (h : (cnt L : Int) ≤ sz) : (cnt (pL sz L y) : Int) ≤ sz := by
  have hk := kd_lt y
  unfold pL
  match hkd : kd y with
  | 0 =>
    simp only; unfold offerL
    split
    · rename_i he
      have : ¬ sz ≤ cnt L := by
        intro hh
        unfold offerE at he
        split at he
        · simp at he
        · split at he
          · simp at he
          · simp at he
      have e : cnt (L ++ [⟨y.id, y.n, 0⟩]) = cnt L + 1 := by simp [cnt, List.filter_append]; rfl
      omega
    · exact h
  | 1 =>
    simp only; unfold answerL
    split
    · rename_i he
      have := cnt_setOut y.id y.n L he
      omega
    · exact h
  | 2 => have := cnt_sub (List.dropWhile_sublist (l := L) (fun o => !o.outs)); show (cnt (unfin L) : Int) ≤ sz; unfold unfin; omega
  | 3 => have := cnt_sub (List.filter_sublist (l := L) (p := fun o => !o.outs)); show (cnt (filtL L) : Int) ≤ sz; unfold filtL; omega
  | k + 4 => exact h
theorem bound_walk (w : World) (hC : HasChg (Kn.of w)) (v0 : Value) (a0 : ArgV Tryd.prog w 3 v0) (v1 : Value) (a1 : ArgV Tryd.prog w 49 v1) : Ret Tryd.prog 5 #[v0, v1] w fun r w' => r = .bool true ∧ Mod [] w w' := by
  obtain ⟨n, rfl, _⟩ := argv_int a0 Tryd.underlying3
  obtain ⟨ad, cap, ops, rfl, hc, hcm, hr⟩ := argv_ops a1
  unfold maxLen at hcm
  have hs := Sat.start w
  have hz := sz0_is n
  have hz1 : 1 ≤ sz0 n ∧ sz0 n ≤ 64 := by simpa [isSz] using hz
  have hu0 := u64_nonneg n
  have hm := Int.emod_nonneg (IntKind.u64.wrap n) (show (64 : Int) ≠ 0 by decide)
  have hm2 := Int.emod_lt_of_pos (IntKind.u64.wrap n) (show (0 : Int) < 64 by decide)
  refine Ret.enter (n := 62) (args := [.int .i64 n, .slice ad ops.length cap]) Tryd.func5 rfl rfl ?_
  refine C.keep [(0, _), (1, _)] ⟨rfl, rfl, trivial⟩ ?_
  refine C.seq ?_
  refine C.region ?_
  refine R.ev rfl (E.assign rfl) ?_
  refine R.done ?_
  refine X.keep [(0, _), (1, _)] ⟨rfl, rfl, trivial⟩ ?_
  refine X.next ?_
  refine C.seq ?_
  refine C.seq ?_
  refine C.region ?_
  refine R.call ⟨_, _, Tryd.func12, rfl, by kernel_rfl⟩ rfl rfl (known_any hs) ?_
  rintro _ w1 ⟨rfl, hs⟩
  refine R.ev rfl (E.notT rfl) ?_
  refine R.ev rfl (E.move rfl) ?_
  refine R.gyes rfl rfl ?_
  refine R.ev rfl (E.move rfl) ?_
  refine R.gyes rfl rfl ?_
  refine R.ev rfl (E.lenSl rfl Tryd.underlying49) ?_
  refine R.gyes rfl rfl ?_
  refine R.ev rfl (E.gtr rfl rfl) ?_
  refine R.ev rfl (E.pickF rfl rfl) ?_
  refine R.done ?_
  refine X.keep [(0, _), (1, _), (14, _)] ⟨rfl, rfl, rfl, trivial⟩ ?_
  refine X.next ?_
  refine C.cdec rfl (fun h14 => ?_) (fun h14 => ?_)
  · refine C.seq ?_
    refine C.region ?_
    refine R.call ⟨_, _, Tryd.func12, rfl, by kernel_rfl⟩ rfl rfl (known_any hs) ?_
    rintro _ w2 ⟨rfl, hs⟩
    refine R.ev rfl (E.assign rfl) ?_
    refine R.done ?_
    refine X.keep [(4, _)] ⟨rfl, trivial⟩ ?_
    refine X.next ?_
    refine C.ret ?_
    refine X.thenRet ?_
    refine X.ret1 rfl rfl ?_
    exact ⟨rfl, hs.mod⟩
  · refine C.skip ?_
    refine X.next ?_
    refine C.seq ?_
    refine C.region ?_
    refine R.ev rfl (E.move rfl) ?_
    refine R.ev rfl (E.conv rfl Tryd.underlying3 Tryd.underlying29) ?_
    refine R.ev rfl (E.rem rfl rfl (by omega) (by omega)) ?_
    refine R.ev rfl ((E.conv rfl Tryd.underlying29 Tryd.underlying3).isI (c := IntKind.u64.wrap n % 64) (wrap_i64 (by omega) (by omega))) ?_
    refine R.ev rfl ((E.add rfl rfl (by omega) (by omega)).isI (c := sz0 n) rfl) ?_
    refine R.ev rfl (E.assign rfl) ?_
    refine R.done ?_
    refine X.keep [(0, _), (1, _)] ⟨rfl, rfl, trivial⟩ ?_
    refine X.next ?_
    refine C.seq ?_
    refine C.region ?_
    refine R.ev rfl (E.move rfl) ?_
    refine R.call ⟨_, _, Tryd.func13, rfl, by kernel_rfl⟩ rfl rfl (new_any (sz0 n) hs) ?_
    rintro _ w2 (⟨h, _⟩ | ⟨_, p, F, rfl, hw, hs⟩)
    · rw [hz] at h; cases h
    refine R.ev rfl (E.move rfl) ?_
    refine R.ev rfl (E.extract rfl rfl) ?_
    refine R.ev rfl (E.extract rfl rfl) ?_
    refine R.ev rfl (E.assign rfl) ?_
    refine R.ev rfl (E.assign rfl) ?_
    refine R.done ?_
    refine X.keep [(0, _), (1, _), (5, _), (6, _)] ⟨rfl, rfl, rfl, rfl, trivial⟩ ?_
    refine X.next ?_
    refine C.seq ?_
    refine C.seq ?_
    refine C.region ?_
    refine R.ev rfl (E.move rfl) ?_
    refine R.ev rfl ((E.neq rfl rfl).isF (by simp)) ?_
    refine R.done ?_
    refine X.keep [(0, _), (1, _), (5, _), (27, _)] ⟨rfl, rfl, rfl, rfl, trivial⟩ ?_
    refine X.next ?_
    refine C.cfalse rfl ?_
    refine C.skip ?_
    refine X.next ?_
    refine C.seq ?_
    refine C.seq ?_
    refine C.region ?_
    refine R.ev rfl (E.assign rfl) ?_
    refine R.done ?_
    refine X.keep [(0, _), (1, _), (5, _), (7, _)] ⟨rfl, rfl, rfl, rfl, trivial⟩ ?_
    refine X.next ?_
    refine C.block ?_
    refine C.loop (T := Nat × Kn × List Off × Hl) [(0, _), (1, _), (5, _)] (fun (k, _, _, _) => [(7, .int .i64 (k : Nat))]) (fun (k, K1, L, F') w' => k ≤ ops.length ∧ KLe (Kn.of w) K1 ∧ L.length ≤ k ∧ (cnt L : Int) ≤ sz0 n ∧ Win p (sz0 n) L F' ∧ Sat K1 w' (F' :: [])) (fun (k, _) => ops.length - k) ((0, Kn.of w, [], F)) ⟨rfl, rfl, rfl, rfl, trivial⟩ ⟨by omega, KLe.refl _, by simp, by simp [cnt]; omega, hw, hs⟩ ?_
    rintro ⟨k, K1, L, F1⟩ w1 ⟨hk, hk1, hlen, hcn, hw1, hs⟩
    refine C.keep [(0, _), (1, _), (5, _), (7, _)] ⟨rfl, rfl, rfl, rfl, trivial⟩ ?_
    refine C.seq ?_
    refine C.seq ?_
    refine C.region ?_
    refine R.ev rfl (E.move rfl) ?_
    refine R.ev rfl (E.move rfl) ?_
    refine R.ev rfl (E.lenSl rfl Tryd.underlying49) ?_
    refine R.ev rfl (E.lss rfl rfl) ?_
    refine R.done ?_
    refine X.keep [(0, _), (1, _), (5, _), (7, _), (31, _)] ⟨rfl, rfl, rfl, rfl, rfl, trivial⟩ ?_
    refine X.next ?_
    refine C.cdec rfl (fun h31 => ?_) (fun h31 => ?_)
    · obtain ⟨y, bk_y, of_y, hy, my, ly, rfl, Ay⟩ := hs.el (i := k) (ad := ad) (n := ops.length) (c := cap) (by omega)
      have ay := Ay _ hs
      have hpl := pL_len (sz0 n) L y
      have hko : ((y.kind.toNat : Int) % 5) = (kd y : Nat) := by unfold kd; omega
      have hkd := kd_lt y
      refine C.skip ?_
      refine X.next ?_
      refine C.seq ?_
      refine C.block ?_
      refine C.seq ?_
      refine C.seq ?_
      refine C.region ?_
      refine R.ev rfl (E.move rfl) ?_
      refine R.ev rfl (E.move rfl) ?_
      refine R.ev rfl (E.indexAddr rfl rfl Tryd.underlying49 Tryd.sz51 rfl (by first | omega | decide)) ?_
      refine R.ev rfl ((E.fieldAddrN 0 rfl Tryd.underlying51 rfl Tryd.sz5 rfl)) ?_
      refine R.ev rfl (E.load1 rfl Tryd.underlying5 rfl (by first | exact hs.ldc | exact hs.ld rfl | exact hs.ld (by assumption) | exact by assumption | exact At.cellC (by assumption))) ?_
      refine R.ev rfl ((E.rem rfl rfl (by decide) (by omega)).isI (c := (kd y : Nat)) hko) ?_
      refine R.ev rfl (E.eql rfl rfl) ?_
      refine R.done ?_
      refine X.keep [(0, _), (1, _), (5, _), (7, _), (40, _)] ⟨rfl, rfl, rfl, rfl, rfl, trivial⟩ ?_
      refine X.next ?_
      refine C.cdec rfl (fun h40 => ?_) (fun h40 => ?_)
      · refine C.exit ?_
        refine X.thenExit ?_
        refine X.blockExit ?_
        refine X.next ?_
        refine C.region ?_
        refine R.ev rfl (E.move rfl) ?_
        refine R.ev rfl (E.add rfl rfl (by omega) (by omega)) ?_
        refine R.ev rfl (E.assign rfl) ?_
        refine R.done ?_
        refine X.keep [(0, _), (1, _), (5, _), (7, _)] ⟨rfl, rfl, rfl, rfl, trivial⟩ ?_
        first
          | exact X.again (k + 1, K2, pL (sz0 n) L y, F2) ⟨rfl, rfl, rfl, rfl, trivial⟩ ⟨by omega, hk1.trans hk2, by omega, hcn2, hw2, hs.to⟩ (by show _ - _ < _ - _; omega)
          | exact X.again (k + 1, K1, L, F1) ⟨rfl, rfl, rfl, rfl, trivial⟩ ⟨by omega, hk1, by omega, hcn, hw1, hs.to⟩ (by show _ - _ < _ - _; omega)
      · refine C.skip ?_
        refine X.next ?_
        refine C.seq ?_
        refine C.region ?_
        refine R.ev rfl (E.move rfl) ?_
        refine R.ev rfl (E.move rfl) ?_
        refine R.ev rfl (E.move rfl) ?_
        refine R.ev rfl (E.indexAddr rfl rfl Tryd.underlying49 Tryd.sz51 rfl (by first | omega | decide)) ?_
        refine R.ev rfl (E.loadRowC rfl Tryd.underlying51 rfl Tryd.sz51 (by first | exact ⟨hs.ldA, by first | rfl | assumption | exact Enc.len _ | exact len_ub (by assumption)⟩ | exact ⟨hs.ldP rfl, by first | rfl | assumption | exact Enc.len _ | exact len_ub (by assumption)⟩ | exact ⟨hs.ldM rfl rfl, by first | rfl | assumption | exact Enc.len _ | exact len_ub (by assumption)⟩ | exact ⟨hs.ldM (by assumption) (by first | rfl | assumption), by first | rfl | assumption | exact Enc.len _ | exact len_ub (by assumption)⟩ | exact ⟨by assumption, by first | rfl | assumption | exact Enc.len _ | exact len_ub (by assumption)⟩ | exact hs.ldp | exact At.partC (by assumption))) ?_
        refine R.call ⟨_, _, Tryd.func24, rfl, by kernel_rfl⟩ rfl rfl (perform_any y (hs.front (F := F1)) (by omega)) ?_
        rintro _ w9 ⟨K2, v91, v92, F2, rfl, hk2, hr91, hr92, hw2, hs1⟩
        have hs := hs.back (F := F1) hs1
        have hcn2 := pL_cnt y hcn
        have e5 : pS (sz0 n) y = sz0 n := by unfold pS; match hq : kd y with | 0 => rfl | 1 => rfl | 2 => rfl | 3 => rfl | q + 4 => omega
        rw [e5] at hw2
        have hol := outsL_len (pL (sz0 n) L y)
        refine R.done ?_
        refine X.keep [(0, _), (1, _), (5, _), (7, _)] ⟨rfl, rfl, rfl, rfl, trivial⟩ ?_
        refine X.next ?_
        refine C.seq ?_
        refine C.region ?_
        refine R.ev rfl (E.move rfl) ?_
        refine R.call ⟨_, _, Tryd.func15, rfl, by kernel_rfl⟩ rfl rfl (outstanding_any hs (by omega)) ?_
        rintro v121 w121 ⟨F121, r121, hs⟩
        obtain ⟨ad121, cap121, rfl, _⟩ := r121.val
        refine R.ev rfl (E.lenSl rfl Tryd.underlying33) ?_
        refine R.ev rfl (E.move rfl) ?_
        refine R.ev rfl ((E.gtr rfl rfl).isF (by omega)) ?_
        refine R.ev rfl (E.move rfl) ?_
        refine R.gyes rfl rfl ?_
        refine R.ev rfl (E.move rfl) ?_
        refine R.gyes rfl rfl ?_
        refine R.call ⟨_, _, Tryd.func23, rfl, by kernel_rfl⟩ rfl rfl (room_any hs hz) ?_
        rintro _ w127 ⟨rfl, hs⟩
        refine R.gyes rfl rfl ?_
        refine R.ev rfl (E.move rfl) ?_
        refine R.gyes rfl rfl ?_
        refine R.ev rfl (E.move rfl) ?_
        refine R.gyes rfl rfl ?_
        refine R.call ⟨_, _, Tryd.func15, rfl, by kernel_rfl⟩ rfl rfl (outstanding_any hs (by omega)) ?_
        rintro v1210 w1210 ⟨F1210, r1210, hs⟩
        obtain ⟨ad1210, cap1210, rfl, _⟩ := r1210.val
        refine R.gyes rfl rfl ?_
        refine R.ev rfl (E.lenSl rfl Tryd.underlying33) ?_
        refine R.gyes rfl rfl ?_
        refine R.ev rfl (E.sub rfl rfl (by omega) (by omega)) ?_
        refine R.gyes rfl rfl ?_
        refine R.ev rfl ((E.neq rfl rfl).isF (by rw [hol]; omega)) ?_
        refine R.ev rfl (E.pickF rfl rfl) ?_
        refine R.done ?_
        refine X.keep [(0, _), (1, _), (5, _), (7, _), (61, _)] ⟨rfl, rfl, rfl, rfl, rfl, trivial⟩ ?_
        refine X.next ?_
        refine C.cfalse rfl ?_
        refine C.skip ?_
        refine X.blockNormal ?_
        refine X.next ?_
        refine C.region ?_
        refine R.ev rfl (E.move rfl) ?_
        refine R.ev rfl (E.add rfl rfl (by omega) (by omega)) ?_
        refine R.ev rfl (E.assign rfl) ?_
        refine R.done ?_
        refine X.keep [(0, _), (1, _), (5, _), (7, _)] ⟨rfl, rfl, rfl, rfl, trivial⟩ ?_
        first
          | exact X.again (k + 1, K2, pL (sz0 n) L y, F2) ⟨rfl, rfl, rfl, rfl, trivial⟩ ⟨by omega, hk1.trans hk2, by omega, hcn2, hw2, hs.to⟩ (by show _ - _ < _ - _; omega)
          | exact X.again (k + 1, K1, L, F1) ⟨rfl, rfl, rfl, rfl, trivial⟩ ⟨by omega, hk1, by omega, hcn, hw1, hs.to⟩ (by show _ - _ < _ - _; omega)
    · refine C.exit ?_
      refine X.thenExit ?_
      refine X.loopExit ?_
      refine X.blockExit ?_
      refine X.next ?_
      refine C.seq ?_
      refine C.region ?_
      refine R.ev rfl (E.assign rfl) ?_
      refine R.done ?_
      refine X.keep [(4, _)] ⟨rfl, trivial⟩ ?_
      refine X.next ?_
      refine C.ret ?_
      refine X.ret1 rfl rfl ?_
      exact ⟨rfl, (hs.less hk1.le).mod⟩

namespace windowBound
open Go.ChangeShapes Go.WideShapes Go.ChangeAt Go.RowKit
open Go.ChangeMaps (open_string shut_string)
set_option linter.unusedVariables false

theorem own : ownKnob Tryd.prog.godebug = none := by kernel_rfl
theorem laidOut : laidOutB Tryd.prog = true := by kernel_rfl
theorem door_met (os : Os) (args : Array Value) : laidMetH Tryd.prog Rows.windowBoundRow.laid ((World.doorLaid Tryd.prog 400 os).forCall (fun _ _ => 0) ⟨#[], args, []⟩).memory :=
  laidMetH_of_parts3 (fuel := 8) (laidMet_of_run' 8 (by kernel_rfl) (by kernel_rfl)) (by kernel_rfl) (by kernel_rfl)
set_option maxRecDepth 100000 in
theorem lifted (os : Os) (started : os.Started) (H : Type) (enc : TypeId × Value → H) :
    ReturnsInHanded {} Tryd.checked os 5 .any (fun w args => (Rows.windowBoundSpec.pre enc Tryd.prog Tryd.f5 [] false w args ∧ laidMetH Tryd.prog Rows.windowBoundRow.laid w) ∧ sizedMet enc Tryd.prog Tryd.f5 (OpenSpec.ofChange Rows.windowBoundSpec) false w args)
      (Rows.windowBoundSpec.post enc Tryd.prog Tryd.f5 false true false false) := by
  refine returnsInHanded_of_change_and (C := Tryd.checked) (X := fun w _ => laidMetH Tryd.prog Rows.windowBoundRow.laid w) (fun _ _ _ hh h => h.of_heap hh) own started (by kernel_rfl) Tryd.func5
    (ChangeSpec.witness_shaped (enc := enc) (C := Tryd.checked) (os := os) (X := fun w _ => laidMetH Tryd.prog Rows.windowBoundRow.laid w) false (World.doorLaid Tryd.prog 400 os) #[.int .i64 0, .slice none 0 0] 8 rfl (World.shaped_of_RefB (by kernel_rfl) (by kernel_rfl)) (by kernel_rfl) (by kernel_rfl) (by kernel_rfl) (door_met os _)) ?_
  intro W base args ds gs before hval0 hW _ _ hL _
  have hval : ∀ (j : Nat) t v, Tryd.f5.params[j]? = some t → args[j]? = some v → Value.okWide Tryd.prog W .any base t v := hval0
  have hW' := hW
  obtain ⟨p, q, hA0, hV, rfl, hfz, hnd⟩ := hW
  have hA : DataW.TrodAll enc Tryd.prog W 0 (fun _ => true) true Tryd.f5.params.toList args.toList ds p := hA0
  rw [Tryd.params5] at hA hval
  obtain ⟨v0, vs0, d0, ds0, p0, q0, hargs, rfl, rfl, h0, r0⟩ := trodAll_cons hA
  obtain ⟨v1, vs1, d1, ds1, p1, q1, rfl, rfl, rfl, h1, r1⟩ := trodAll_cons r0
  obtain ⟨rfl, rfl, rfl⟩ := trodAll_nil r1
  obtain rfl : args = #[v0, v1] := by cases args; simp_all
  obtain ⟨rfl, rfl⟩ := trodVars_none hV
  have lt0 : ∀ x ∈ p0, x.block < W.heap.size := by obtain ⟨m, hm⟩ := h0; exact DataW.trod_lt m _ _ _ hm
  have a0 := Eng.argv_of (hval 0 3 v0 rfl rfl) h0
  have lt1 : ∀ x ∈ p1, x.block < W.heap.size := by obtain ⟨m, hm⟩ := h1; exact DataW.trod_lt m _ _ _ hm
  have a1 := Eng.argv_of (hval 1 49 v1 rfl rfl) h1
  clear hA0 hval0
  refine Calls.mono (bound_walk W (laid_chg hL) v0 a0 v1 a1) fun e W' ⟨v, he, hv, hm⟩ => ?_
  subst he
  subst hv
  have bel := hm.below
  exact ⟨_, rfl, _, _, _, [], _, [], hW', trodAll_mk1 (shut_bool Tryd.underlying4 _), (trodAll_cons_mk (Below.trod laidOut (by kernel_rfl) (of_decide_eq_true (by kernel_rfl)) h0 bel lt0) (trodAll_cons_mk (Below.trod laidOut (by kernel_rfl) (of_decide_eq_true (by kernel_rfl)) h1 bel lt1) trodAll_mk0)), rfl, bel.frame _, fun h => by cases h⟩

theorem over : Rows.windowBoundRow.holds Tryd.pinned (OpenSpec.ofChange Rows.windowBoundSpec) :=
  OpenClaim.holds_of_wide 5 Tryd.f5 rfl rfl rfl rfl rfl rfl rfl ⟨rfl, rfl, rfl, rfl, rfl⟩ rfl rfl rfl rfl rfl (by kernel_rfl) Tryd.func5 (by kernel_rfl)
    (of_decide_eq_true (by kernel_rfl)) (by unfold Func.isWrapper; first | (rw [if_pos (by decide +kernel)]; kernel_rfl) | (rw [if_neg (by decide +kernel)]; exact ⟨rfl, rfl⟩))
    (fun os started H enc _ => lifted os started H enc)
end windowBound
/-- the statement: the tied card -/
theorem windowBound_holds : Rows.WindowBoundCardSaid :=
  Claim7.holds_tied_plain_at .later [] [.data] true (true, "528cf9756be51d7108a31d58a47078c1c4b59c91fa320a11aaba2c24a43b3e31") false
    windowBound.over (fun _ h => by cases h) (by kernel_rfl) (fun _ h => by cases h) windowBound_row_tie rfl ⟨rfl, rfl⟩ (by kernel_rfl) rfl
    (fun f fn hf hfn => by
      obtain rfl : f = 5 := Option.some.inj ((show Tryd.prog.funcNamed "bulletin/bulletinlaw36.WindowBound" = some 5 by kernel_rfl).symm.trans hf) |>.symm
      obtain rfl : fn = Tryd.f5 := (Option.some.inj (Tryd.func5.symm.trans hfn)).symm
      exact ⟨by kernel_rfl, fun j t ht => by
        rw [Tryd.params5] at ht
        have ht := List.mem_of_getElem? (by simpa using ht)
        have key : ∀ t ∈ ([3, 49] : List TypeId), Tryd.prog.wantsStandIn t = false := by
          intro t ht
          simp only [List.mem_cons, List.not_mem_nil, or_false] at ht
          rcases ht with rfl | rfl <;> kernel_rfl
        exact key t (by simpa using ht)⟩)
    (by kernel_rfl)
#print axioms windowBound_holds
end Go.Proofs.YtajbclcpkgenbaaDoor
