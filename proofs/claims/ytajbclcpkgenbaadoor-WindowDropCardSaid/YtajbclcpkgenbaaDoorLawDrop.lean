/-
  WindowDrop returns true for every number and every list of operations. No condition but the listed table (tied to the program's text).
-/
import Derived.Test.YtajbclcpkgenbaaDoorWinB
namespace Go.Proofs.YtajbclcpkgenbaaDoor
open Go.Eng Go.RowKit

theorem while_all {q : Off → Bool} : ∀ (l : List Off), (∀ x ∈ l, q x = true) → l.takeWhile q = l ∧ l.dropWhile q = []
  | [], _ => by simp
  | x :: l, h => by
    have hx := h x (by simp)
    obtain ⟨h1, h2⟩ := while_all l (fun y hy => h y (by simp [hy]))
    simp [hx, h1, h2]
theorem filt_fin (L : List Off) : fin (filtL L) = filtL L ∧ unfin (filtL L) = [] :=
  while_all (filtL L) (fun x hx => by simpa using (List.mem_filter.1 hx).2)
theorem filt_outs (L : List Off) : outsL (filtL L) = [] := by
  unfold outsL filtL
  rw [List.filter_filter]
  simp
theorem filt_len (L : List Off) : (filtL L).length + (outsL L).length = L.length := by
  unfold outsL filtL
  induction L with
  | nil => rfl
  | cons o L ih => cases h : o.outs <;> simp [List.filter_cons, h] at ih ⊢ <;> omega
theorem drop_walk (w : World) (hC : HasChg (Kn.of w)) (v0 : Value) (a0 : ArgV Tryd.prog w 3 v0) (v1 : Value) (a1 : ArgV Tryd.prog w 49 v1) : Ret Tryd.prog 7 #[v0, v1] w fun r w' => r = .bool true ∧ Mod [] w w' := by
  obtain ⟨n, rfl, _⟩ := argv_int a0 Tryd.underlying3
  obtain ⟨ad, cap, ops, rfl, hc, hcm, hr⟩ := argv_ops a1
  unfold maxLen at hcm
  have hs := Sat.start w
  have hinv := run_inv (s := (sz0 n, [])) ⟨sz0_is n, by simp⟩ ops
  have hlen := run_len ops (sz0 n, [])
  refine Ret.enter (n := 72) (args := [.int .i64 n, .slice ad ops.length cap]) Tryd.func7 rfl rfl ?_
  refine C.keep [(0, _), (1, _)] ⟨rfl, rfl, trivial⟩ ?_
  refine C.seq ?_
  refine C.region ?_
  refine R.ev rfl (E.assign rfl) ?_
  refine R.done ?_
  refine X.keep [(0, _), (1, _)] ⟨rfl, rfl, trivial⟩ ?_
  refine X.next ?_
  refine C.seq ?_
  refine C.seq ?_
  refine C.region ?_
  refine R.call ⟨_, _, Tryd.func12, rfl, by kernel_rfl⟩ rfl rfl (known_any hs) ?_
  rintro _ w1 ⟨rfl, hs⟩
  refine R.ev rfl (E.notT rfl) ?_
  refine R.ev rfl (E.move rfl) ?_
  refine R.gyes rfl rfl ?_
  refine R.ev rfl (E.move rfl) ?_
  refine R.gyes rfl rfl ?_
  refine R.ev rfl (E.lenSl rfl Tryd.underlying49) ?_
  refine R.gyes rfl rfl ?_
  refine R.ev rfl (E.gtr rfl rfl) ?_
  refine R.ev rfl (E.pickF rfl rfl) ?_
  refine R.done ?_
  refine X.keep [(0, _), (1, _), (17, _)] ⟨rfl, rfl, rfl, trivial⟩ ?_
  refine X.next ?_
  refine C.cdec rfl (fun h17 => ?_) (fun h17 => ?_)
  · refine C.seq ?_
    refine C.region ?_
    refine R.call ⟨_, _, Tryd.func12, rfl, by kernel_rfl⟩ rfl rfl (known_any hs) ?_
    rintro _ w2 ⟨rfl, hs⟩
    refine R.ev rfl (E.assign rfl) ?_
    refine R.done ?_
    refine X.keep [(4, _)] ⟨rfl, trivial⟩ ?_
    refine X.next ?_
    refine C.ret ?_
    refine X.thenRet ?_
    refine X.ret1 rfl rfl ?_
    exact ⟨rfl, hs.mod⟩
  · refine C.skip ?_
    refine X.next ?_
    refine C.seq ?_
    refine C.region ?_
    refine R.ev rfl (E.move rfl) ?_
    refine R.ev rfl (E.move rfl) ?_
    refine R.call ⟨_, _, Tryd.func25, rfl, by kernel_rfl⟩ rfl rfl (build_any (ops := ops) n hs (by omega)) ?_
    rintro _ w3 ⟨K1, p, v, F, rfl, hk1, hw, hr1, hs⟩
    generalize hst : run (sz0 n, []) ops = st at hw hr1 hs hlen hinv
    simp at hlen
    have hz1 : 1 ≤ st.1 ∧ st.1 ≤ 64 := by simpa [isSz] using hinv.size
    have hol := outsL_len st.2
    have hcl := cnt_le st.2
    have hfl := filt_len st.2
    obtain ⟨hf1, hf2⟩ := filt_fin st.2
    obtain ⟨ad3, cap3, rfl, _, _⟩ := hr1.ex
    refine R.ev rfl (E.move rfl) ?_
    refine R.ev rfl (E.extract rfl rfl) ?_
    refine R.ev rfl (E.extract rfl rfl) ?_
    refine R.ev rfl (E.extract rfl rfl) ?_
    refine R.sallocA hs Tryd.zr58 rfl ?_
    intro b6 w6 hs
    refine R.ev rfl (E.assign rfl) ?_
    first | refine R.cstoreAll hs rfl rfl Tryd.sz58 (by first | rfl | assumption | exact Enc.len _ | exact len_ub (by assumption) | simp [*]) (by first | rfl | assumption | exact Enc.len _ | exact len_ub (by assumption) | simp [*]) (by first | assumption | exact OneL.all | exact Enc.one _ | exact ub_all _ | (repeat' (first | refine List.forall_mem_cons.2 ⟨?_, ?_⟩ | exact List.forall_mem_nil _ | rfl | exact OneC.one | exact KRow.oneC' (by assumption)))) ?_ | refine R.cstore hs rfl rfl Tryd.sz58 (by first | rfl | assumption | exact Enc.len _ | exact len_ub (by assumption) | simp [*]) (by simp [*]) (by first | assumption | exact OneL.all | exact Enc.one _ | exact ub_all _ | (repeat' (first | refine List.forall_mem_cons.2 ⟨?_, ?_⟩ | exact List.forall_mem_nil _ | rfl | exact OneC.one | exact KRow.oneC' (by assumption)))) ?_
    intro w3_9 hs
    try simp only [List.set_cons_zero, List.set_cons_succ] at hs
    refine R.ev rfl (E.assign rfl) ?_
    refine R.done ?_
    refine X.keep [(5, _), (6, _), (7, _)] ⟨rfl, rfl, rfl, trivial⟩ ?_
    refine X.next ?_
    refine C.seq ?_
    refine C.seq ?_
    refine C.region ?_
    refine R.ev rfl (E.move rfl) ?_
    refine R.ev rfl (E.notT rfl) ?_
    refine R.done ?_
    refine X.keep [(5, _), (6, _), (27, _)] ⟨rfl, rfl, rfl, trivial⟩ ?_
    refine X.next ?_
    refine C.cfalse rfl ?_
    refine C.skip ?_
    refine X.next ?_
    refine C.seq ?_
    refine C.region ?_
    refine R.ev rfl (E.move rfl) ?_
    refine R.call ⟨_, _, Tryd.func26, rfl, by kernel_rfl⟩ rfl rfl (drop_any (hs.front (F := F)) (by omega)) ?_
    rintro v6 w6 ⟨F6, G6, r6, hw6, hs1⟩
    have hs := hs.back2 (F := F) hs1
    obtain ⟨ad6, cap6, rfl, _⟩ := r6.val
    refine R.ev rfl (E.assign rfl) ?_
    refine R.done ?_
    refine X.keep [(5, _), (6, _), (8, _)] ⟨rfl, rfl, rfl, trivial⟩ ?_
    refine X.next ?_
    refine C.seq ?_
    refine C.region ?_
    refine R.ev rfl (E.move rfl) ?_
    refine R.call ⟨_, _, Tryd.func20, rfl, by kernel_rfl⟩ rfl rfl (len_any hs) ?_
    rintro _ w7 ⟨rfl, hs⟩
    refine R.ev rfl (E.assign rfl) ?_
    refine R.done ?_
    refine X.keep [(5, _), (6, _), (8, _), (9, _)] ⟨rfl, rfl, rfl, rfl, trivial⟩ ?_
    refine X.next ?_
    refine C.seq ?_
    refine C.region ?_
    refine R.ev rfl (E.move rfl) ?_
    refine R.call ⟨_, _, Tryd.func14, rfl, by kernel_rfl⟩ rfl rfl (settled_any (hs.front (F := F6)) (by omega)) ?_
    rintro v8 w8 ⟨F8, G8, r8, hw8, hs1⟩
    have hs := hs.back2 (F := F6) hs1
    rw [hf1] at r8
    rw [hf2] at hw8
    obtain ⟨ad8, cap8, rfl, _⟩ := r8.val
    refine R.ev rfl (E.assign rfl) ?_
    refine R.done ?_
    refine X.keep [(5, _), (6, _), (8, _), (9, _), (10, _)] ⟨rfl, rfl, rfl, rfl, rfl, trivial⟩ ?_
    refine X.next ?_
    refine C.seq ?_
    refine C.region ?_
    refine R.ev rfl (E.move rfl) ?_
    refine R.ev rfl (E.loadRowC rfl Tryd.underlying58 rfl Tryd.sz58 (by first | exact ⟨hs.ldA, by first | rfl | assumption | exact Enc.len _ | exact len_ub (by assumption)⟩ | exact ⟨hs.ldP rfl, by first | rfl | assumption | exact Enc.len _ | exact len_ub (by assumption)⟩ | exact ⟨hs.ldM rfl rfl, by first | rfl | assumption | exact Enc.len _ | exact len_ub (by assumption)⟩ | exact ⟨hs.ldM (by assumption) (by first | rfl | assumption), by first | rfl | assumption | exact Enc.len _ | exact len_ub (by assumption)⟩ | exact ⟨by assumption, by first | rfl | assumption | exact Enc.len _ | exact len_ub (by assumption)⟩ | exact hs.ldp | exact At.partC (by assumption))) ?_
    refine R.call ⟨_, _, Tryd.func28, rfl, by kernel_rfl⟩ rfl rfl (mouts_any (sz := st.1) (L := st.2) hs (by omega)) ?_
    rintro v92 w92 ⟨F92, r92, hs⟩
    refine R.call ⟨_, _, Tryd.func27, rfl, by kernel_rfl⟩ rfl rfl (ids_any (L := outsL st.2) (M := outsL st.2) hs (by omega)) ?_
    rintro _ w93 ⟨h93, hs⟩
    rw [decide_eq_true rfl] at h93
    subst h93
    refine R.ev rfl (E.move rfl) ?_
    refine R.gyes rfl rfl ?_
    refine R.ev rfl (E.move rfl) ?_
    refine R.gyes rfl rfl ?_
    refine R.call ⟨_, _, Tryd.func15, rfl, by kernel_rfl⟩ rfl rfl (outstanding_any hs (by simp)) ?_
    rintro v96 w96 ⟨F96, r96, hs⟩
    obtain ⟨ad96, cap96, rfl, _⟩ := r96.val
    refine R.gyes rfl rfl ?_
    refine R.ev rfl (E.lenSl rfl Tryd.underlying33) ?_
    refine R.gyes rfl rfl ?_
    refine R.ev rfl ((E.eql rfl rfl).isT (by simp [outsL])) ?_
    refine R.ev rfl (E.pickT rfl rfl) ?_
    refine R.ev rfl (E.move rfl) ?_
    refine R.gyes rfl rfl ?_
    refine R.ev rfl (E.move rfl) ?_
    refine R.gyes rfl rfl ?_
    refine R.ev rfl (E.lenSl rfl Tryd.underlying30) ?_
    refine R.gyes rfl rfl ?_
    refine R.ev rfl (E.move rfl) ?_
    refine R.gyes rfl rfl ?_
    refine R.ev rfl ((E.eql rfl rfl).isT (by simp)) ?_
    refine R.ev rfl (E.pickT rfl rfl) ?_
    refine R.ev rfl (E.move rfl) ?_
    refine R.gyes rfl rfl ?_
    refine R.ev rfl (E.move rfl) ?_
    refine R.gyes rfl rfl ?_
    refine R.ev rfl (E.move rfl) ?_
    refine R.gyes rfl rfl ?_
    refine R.ev rfl (E.lenSl rfl Tryd.underlying33) ?_
    refine R.gyes rfl rfl ?_
    refine R.ev rfl (E.add rfl rfl (by omega) (by omega)) ?_
    refine R.gyes rfl rfl ?_
    first | refine R.ev rfl (E.fieldAddr0 1 rfl Tryd.underlying58 rfl Tryd.sz56 rfl) ?_ | refine R.ev rfl (E.fieldAddrN 1 rfl Tryd.underlying58 rfl Tryd.sz56 rfl) ?_
    refine R.gyes rfl rfl ?_
    refine R.ev rfl (E.load1 rfl Tryd.underlying56 rfl (by first | exact hs.ldc | exact hs.ld rfl | exact hs.ld (by assumption) | exact by assumption | exact At.cellC (by assumption))) ?_
    refine R.gyes rfl rfl ?_
    refine R.ev rfl (E.lenSl rfl Tryd.underlying56) ?_
    refine R.gyes rfl rfl ?_
    refine R.ev rfl ((E.eql rfl rfl).isT (by omega)) ?_
    refine R.ev rfl (E.pickT rfl rfl) ?_
    refine R.ev rfl (E.move rfl) ?_
    refine R.gyes rfl rfl ?_
    refine R.ev rfl (E.move rfl) ?_
    refine R.gyes rfl rfl ?_
    refine R.call ⟨_, _, Tryd.func20, rfl, by kernel_rfl⟩ rfl rfl (len_any hs) ?_
    rintro _ w928 ⟨rfl, hs⟩
    refine R.gyes rfl rfl ?_
    refine R.ev rfl ((E.eql rfl rfl).isT (by simp)) ?_
    refine R.ev rfl (E.pickT rfl rfl) ?_
    refine R.ev rfl (E.move rfl) ?_
    refine R.gyes rfl rfl ?_
    refine R.ev rfl (E.move rfl) ?_
    refine R.gyes rfl rfl ?_
    refine R.call ⟨_, _, Tryd.func23, rfl, by kernel_rfl⟩ rfl rfl (room_any hs hinv.size) ?_
    rintro _ w933 ⟨rfl, hs⟩
    refine R.gyes rfl rfl ?_
    refine R.ev rfl (E.move rfl) ?_
    refine R.gyes rfl rfl ?_
    refine R.call ⟨_, _, Tryd.func22, rfl, by kernel_rfl⟩ rfl rfl (size_any hs) ?_
    rintro _ w935 ⟨rfl, hs⟩
    refine R.gyes rfl rfl ?_
    refine R.ev rfl ((E.eql rfl rfl).isT (by simp [cnt]; omega)) ?_
    refine R.ev rfl (E.pickT rfl rfl) ?_
    refine R.ev rfl (E.assign rfl) ?_
    refine R.done ?_
    refine X.keep [(4, _)] ⟨rfl, trivial⟩ ?_
    refine X.next ?_
    refine C.ret ?_
    refine X.ret1 rfl rfl ?_
    exact ⟨rfl, (hs.less hk1.le).mod⟩

namespace windowDrop
open Go.ChangeShapes Go.WideShapes Go.ChangeAt Go.RowKit
open Go.ChangeMaps (open_string shut_string)
set_option linter.unusedVariables false

theorem own : ownKnob Tryd.prog.godebug = none := by kernel_rfl
theorem laidOut : laidOutB Tryd.prog = true := by kernel_rfl
theorem door_met (os : Os) (args : Array Value) : laidMetH Tryd.prog Rows.windowDropRow.laid ((World.doorLaid Tryd.prog 400 os).forCall (fun _ _ => 0) ⟨#[], args, []⟩).memory :=
  laidMetH_of_parts3 (fuel := 8) (laidMet_of_run' 8 (by kernel_rfl) (by kernel_rfl)) (by kernel_rfl) (by kernel_rfl)
set_option maxRecDepth 100000 in
theorem lifted (os : Os) (started : os.Started) (H : Type) (enc : TypeId × Value → H) :
    ReturnsInHanded {} Tryd.checked os 7 .any (fun w args => (Rows.windowDropSpec.pre enc Tryd.prog Tryd.f7 [] false w args ∧ laidMetH Tryd.prog Rows.windowDropRow.laid w) ∧ sizedMet enc Tryd.prog Tryd.f7 (OpenSpec.ofChange Rows.windowDropSpec) false w args)
      (Rows.windowDropSpec.post enc Tryd.prog Tryd.f7 false true false false) := by
  refine returnsInHanded_of_change_and (C := Tryd.checked) (X := fun w _ => laidMetH Tryd.prog Rows.windowDropRow.laid w) (fun _ _ _ hh h => h.of_heap hh) own started (by kernel_rfl) Tryd.func7
    (ChangeSpec.witness_shaped (enc := enc) (C := Tryd.checked) (os := os) (X := fun w _ => laidMetH Tryd.prog Rows.windowDropRow.laid w) false (World.doorLaid Tryd.prog 400 os) #[.int .i64 0, .slice none 0 0] 8 rfl (World.shaped_of_RefB (by kernel_rfl) (by kernel_rfl)) (by kernel_rfl) (by kernel_rfl) (by kernel_rfl) (door_met os _)) ?_
  intro W base args ds gs before hval0 hW _ _ hL _
  have hval : ∀ (j : Nat) t v, Tryd.f7.params[j]? = some t → args[j]? = some v → Value.okWide Tryd.prog W .any base t v := hval0
  have hW' := hW
  obtain ⟨p, q, hA0, hV, rfl, hfz, hnd⟩ := hW
  have hA : DataW.TrodAll enc Tryd.prog W 0 (fun _ => true) true Tryd.f7.params.toList args.toList ds p := hA0
  rw [Tryd.params7] at hA hval
  obtain ⟨v0, vs0, d0, ds0, p0, q0, hargs, rfl, rfl, h0, r0⟩ := trodAll_cons hA
  obtain ⟨v1, vs1, d1, ds1, p1, q1, rfl, rfl, rfl, h1, r1⟩ := trodAll_cons r0
  obtain ⟨rfl, rfl, rfl⟩ := trodAll_nil r1
  obtain rfl : args = #[v0, v1] := by cases args; simp_all
  obtain ⟨rfl, rfl⟩ := trodVars_none hV
  have lt0 : ∀ x ∈ p0, x.block < W.heap.size := by obtain ⟨m, hm⟩ := h0; exact DataW.trod_lt m _ _ _ hm
  have a0 := Eng.argv_of (hval 0 3 v0 rfl rfl) h0
  have lt1 : ∀ x ∈ p1, x.block < W.heap.size := by obtain ⟨m, hm⟩ := h1; exact DataW.trod_lt m _ _ _ hm
  have a1 := Eng.argv_of (hval 1 49 v1 rfl rfl) h1
  clear hA0 hval0
  refine Calls.mono (drop_walk W (laid_chg hL) v0 a0 v1 a1) fun e W' ⟨v, he, hv, hm⟩ => ?_
  subst he
  subst hv
  have bel := hm.below
  exact ⟨_, rfl, _, _, _, [], _, [], hW', trodAll_mk1 (shut_bool Tryd.underlying4 _), (trodAll_cons_mk (Below.trod laidOut (by kernel_rfl) (of_decide_eq_true (by kernel_rfl)) h0 bel lt0) (trodAll_cons_mk (Below.trod laidOut (by kernel_rfl) (of_decide_eq_true (by kernel_rfl)) h1 bel lt1) trodAll_mk0)), rfl, bel.frame _, fun h => by cases h⟩

theorem over : Rows.windowDropRow.holds Tryd.pinned (OpenSpec.ofChange Rows.windowDropSpec) :=
  OpenClaim.holds_of_wide 7 Tryd.f7 rfl rfl rfl rfl rfl rfl rfl ⟨rfl, rfl, rfl, rfl, rfl⟩ rfl rfl rfl rfl rfl (by kernel_rfl) Tryd.func7 (by kernel_rfl)
    (of_decide_eq_true (by kernel_rfl)) (by unfold Func.isWrapper; first | (rw [if_pos (by decide +kernel)]; kernel_rfl) | (rw [if_neg (by decide +kernel)]; exact ⟨rfl, rfl⟩))
    (fun os started H enc _ => lifted os started H enc)
end windowDrop
/-- the statement: the tied card -/
theorem windowDrop_holds : Rows.WindowDropCardSaid :=
  Claim7.holds_tied_plain_at .later [] [.data] true (true, "528cf9756be51d7108a31d58a47078c1c4b59c91fa320a11aaba2c24a43b3e31") false
    windowDrop.over (fun _ h => by cases h) (by kernel_rfl) (fun _ h => by cases h) windowDrop_row_tie rfl ⟨rfl, rfl⟩ (by kernel_rfl) rfl
    (fun f fn hf hfn => by
      obtain rfl : f = 7 := Option.some.inj ((show Tryd.prog.funcNamed "bulletin/bulletinlaw36.WindowDrop" = some 7 by kernel_rfl).symm.trans hf) |>.symm
      obtain rfl : fn = Tryd.f7 := (Option.some.inj (Tryd.func7.symm.trans hfn)).symm
      exact ⟨by kernel_rfl, fun j t ht => by
        rw [Tryd.params7] at ht
        have ht := List.mem_of_getElem? (by simpa using ht)
        have key : ∀ t ∈ ([3, 49] : List TypeId), Tryd.prog.wantsStandIn t = false := by
          intro t ht
          simp only [List.mem_cons, List.not_mem_nil, or_false] at ht
          rcases ht with rfl | rfl <;> kernel_rfl
        exact key t (by simpa using ht)⟩)
    (by kernel_rfl)
#print axioms windowDrop_holds
end Go.Proofs.YtajbclcpkgenbaaDoor
