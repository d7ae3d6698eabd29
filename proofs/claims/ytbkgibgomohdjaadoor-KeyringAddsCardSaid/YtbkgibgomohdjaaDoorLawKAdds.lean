/-
  KeyringAdds returns true for every list of roll-overs: the keyring's authors, its length and the identities it has are the reference's. No condition but the listed table (tied to the program's text).
-/
import Derived.Test.YtbkgibgomohdjaaDoorKrL
import Derived.Test.YtbkgibgomohdjaaDoorKrS
namespace Go.Proofs.YtbkgibgomohdjaaDoor
open Go.Eng Go.RowKit Go.Sort
theorem kadds_walk (w : World) (hkc : HasKc (Kn.of w)) (v1 : Value) (a1 : ArgV Tryd.prog w 22 v1) : Ret Tryd.prog 9 #[v1] w fun r w' => r = .bool true ∧ Mod [] w w' := by
  obtain ⟨ad, cap, ms, rfl, hc1, _, hr1⟩ := argv_mvs a1
  have hs := Sat.start w
  refine Ret.enter (n := 68) (args := [.slice ad ms.length cap]) Tryd.func9 rfl rfl ?_
  refine C.keep [(0, _)] ⟨rfl, trivial⟩ ?_
  refine C.seq ?_
  refine C.region ?_
  refine R.ev rfl (E.assign rfl) ?_
  refine R.done ?_
  refine X.keep [(0, _)] ⟨rfl, trivial⟩ ?_
  refine X.next ?_
  refine C.seq ?_
  refine C.seq ?_
  refine C.region ?_
  refine R.call ⟨_, _, Tryd.func11, rfl, by kernel_rfl⟩ rfl rfl (known_any hs) ?_
  rintro _ w1 ⟨rfl, hs⟩
  refine R.ev rfl (E.notT rfl) ?_
  refine R.done ?_
  refine X.keep [(0, _), (12, _)] ⟨rfl, rfl, trivial⟩ ?_
  refine X.next ?_
  refine C.cfalse rfl ?_
  refine C.skip ?_
  refine X.next ?_
  refine C.seq ?_
  refine C.region ?_
  refine R.ev rfl (E.move rfl) ?_
  refine R.call ⟨_, _, Tryd.func12, rfl, by kernel_rfl⟩ rfl rfl (build_any (ms := ms) (n := 20) (by decide) hs) ?_
  rintro _ w3 ⟨p, K2, v8, MK, MR, F, rfl, hk2, hr8, hI, hw, hs⟩
  have hbl : (bld (ms.take 20)).length ≤ 20 := by have := bld_len (ms.take 20); rw [List.length_take] at this; omega
  have o8 : OneC v8 := ⟨KRow.oneC' hr8⟩
  generalize bld (ms.take 20) = L at hr8 hI hbl
  obtain ⟨ad8, cap8, rfl, _⟩ := hr8.ex
  refine R.ev rfl (E.move rfl) ?_
  refine R.ev rfl (E.extract rfl rfl) ?_
  refine R.ev rfl (E.extract rfl rfl) ?_
  refine R.ev rfl (E.extract rfl rfl) ?_
  refine R.ev rfl (E.assign rfl) ?_
  refine R.ev rfl (E.assign rfl) ?_
  refine R.ev rfl (E.assign rfl) ?_
  refine R.done ?_
  refine X.keep [(3, _), (4, _), (5, _)] ⟨rfl, rfl, rfl, trivial⟩ ?_
  refine X.next ?_
  refine C.seq ?_
  refine C.region ?_
  refine R.ev rfl (E.move rfl) ?_
  refine R.call ⟨_, _, Tryd.func30, rfl, by kernel_rfl⟩ rfl rfl (authors_any hI (by omega) hs) ?_
  rintro v20 w4 ⟨A, F20, r20, hA, hs⟩
  obtain ⟨ad20, cap20, rfl, _, _, _⟩ := r20.val
  refine R.ev rfl (E.assign rfl) ?_
  refine R.done ?_
  refine X.keep [(3, _), (4, _), (5, _), (6, _)] ⟨rfl, rfl, rfl, rfl, trivial⟩ ?_
  refine X.next ?_
  refine C.seq ?_
  refine C.region ?_
  refine R.ev rfl (E.move rfl) ?_
  refine R.call ⟨_, _, Tryd.func31, rfl, by kernel_rfl⟩ rfl rfl (rauthors_any (L := L) hs (by omega)) ?_
  rintro v22 w5 ⟨B, F22, r22, hB, hs⟩
  obtain rfl := hA.eq hB
  obtain ⟨ad22, cap22, rfl, _, _, _⟩ := r22.val
  have hAl := hA.2.2
  refine R.ev rfl (E.assign rfl) ?_
  refine R.done ?_
  refine X.keep [(3, _), (4, _), (5, _), (6, _), (7, _)] ⟨rfl, rfl, rfl, rfl, rfl, trivial⟩ ?_
  refine X.next ?_
  refine C.seq ?_
  refine C.seq ?_
  refine C.region ?_
  refine R.ev rfl (E.move rfl) ?_
  refine R.ev rfl ((E.not rfl).isB (c := false) rfl) ?_
  refine R.ev rfl (E.move rfl) ?_
  refine R.gyes rfl rfl ?_
  refine R.ev rfl (E.move rfl) ?_
  refine R.gyes rfl rfl ?_
  refine R.call ⟨_, _, Tryd.func28, rfl, by kernel_rfl⟩ rfl rfl (len_any hI hs) ?_
  rintro _ w64 ⟨rfl, hs⟩
  refine R.gyes rfl rfl ?_
  refine R.ev rfl (E.move rfl) ?_
  refine R.gyes rfl rfl ?_
  refine R.ev rfl (E.lenSl rfl Tryd.underlying26) ?_
  refine R.gyes rfl rfl ?_
  refine R.ev rfl ((E.neq rfl rfl).isB (c := false) (by simp)) ?_
  refine R.ev rfl (E.pickF rfl rfl) ?_
  refine R.ev rfl (E.move rfl) ?_
  refine R.gyes rfl rfl ?_
  refine R.ev rfl (E.move rfl) ?_
  refine R.gyes rfl rfl ?_
  refine R.ev rfl (E.lenSl rfl Tryd.underlying75) ?_
  refine R.gyes rfl rfl ?_
  refine R.ev rfl (E.move rfl) ?_
  refine R.gyes rfl rfl ?_
  refine R.ev rfl (E.lenSl rfl Tryd.underlying77) ?_
  refine R.gyes rfl rfl ?_
  refine R.ev rfl ((E.neq rfl rfl).isB (c := false) (by simp)) ?_
  refine R.ev rfl (E.pickF rfl rfl) ?_
  refine R.done ?_
  refine X.keep [(3, _), (4, _), (6, _), (7, _), (38, _)] ⟨rfl, rfl, rfl, rfl, rfl, trivial⟩ ?_
  refine X.next ?_
  refine C.cfalse rfl ?_
  refine C.skip ?_
  refine X.next ?_
  refine C.seq ?_
  refine C.seq ?_
  refine C.region ?_
  refine R.ev rfl (E.assign rfl) ?_
  refine R.done ?_
  refine X.keep [(3, _), (4, _), (6, _), (7, _), (8, _)] ⟨rfl, rfl, rfl, rfl, rfl, trivial⟩ ?_
  refine X.next ?_
  refine C.block ?_
  refine C.loop  [(3, _), (4, _), (6, _), (7, _)] (fun k => [(8, .int .i64 (k : Nat))]) (fun k w' => k ≤ A.length ∧ Sat K2 w' [F22, F20, F]) (fun k => A.length - k) (0) ⟨rfl, rfl, rfl, rfl, rfl, trivial⟩ ⟨Nat.zero_le _, hs.to⟩ ?_
  rintro k w6 ⟨hk, hs⟩
  refine C.keep [(3, _), (4, _), (6, _), (7, _), (8, _)] ⟨rfl, rfl, rfl, rfl, rfl, trivial⟩ ?_
  refine C.seq ?_
  refine C.seq ?_
  refine C.region ?_
  refine R.ev rfl (E.move rfl) ?_
  refine R.ev rfl (E.move rfl) ?_
  refine R.ev rfl (E.lenSl rfl Tryd.underlying75) ?_
  refine R.ev rfl (E.lss rfl rfl) ?_
  refine R.done ?_
  refine X.keep [(3, _), (4, _), (6, _), (7, _), (8, _), (42, _)] ⟨rfl, rfl, rfl, rfl, rfl, rfl, trivial⟩ ?_
  refine X.next ?_
  refine C.cdec rfl (fun h42 => ?_) (fun h42 => ?_)
  · obtain ⟨y, hy⟩ : ∃ y, A[k]? = some y := ⟨_, List.getElem?_eq_getElem (by omega)⟩
    obtain ⟨b20, rfl⟩ : ∃ b, ad20 = some ⟨b, 0, none⟩ := by obtain ⟨_, _, e, _, _, h⟩ := r20.val; cases e; exact h (by intro e; rw [e] at hy; simp at hy)
    obtain ⟨b22, rfl⟩ : ∃ b, ad22 = some ⟨b, 0, none⟩ := by obtain ⟨_, _, e, _, _, h⟩ := r22.val; cases e; exact h (by intro e; rw [e] at hy; simp at hy)
    have A1 := Sat.elAt (Hs := [F22, F20, F]) (b := b20) (off := 0) (n := A.length) cap20 hs hy
    have A2 := Sat.elAt (Hs := [F22, F20, F]) (b := b22) (off := 0) (n := A.length) cap22 hs hy
    have e1 := encV_len y
    refine C.skip ?_
    refine X.next ?_
    refine C.seq ?_
    refine C.block ?_
    refine C.seq ?_
    refine C.drawn (SatS hs) ([3, 7], [0, 1, 2, 4, 5, 6, 8]) (by kernel_rfl) ?_
    have hs := hs.drew
    refine D.evP 0 rfl (by kernel_rfl) rfl (fun _ => hs.to) (fun _ => E.move rfl) ?_
    refine D.evP 1 rfl (by kernel_rfl) rfl (fun _ => hs.to) (fun _ => E.move rfl) ?_
    refine D.evP 2 rfl (by kernel_rfl) rfl (fun _ => hs.to) (fun _ => E.indexAddr rfl rfl Tryd.underlying75 Tryd.sz79 rfl (by first | omega | decide)) ?_
    refine D.evP 4 rfl (by kernel_rfl) rfl (fun _ => hs.to) (fun _ => E.move rfl) ?_
    refine D.evP 5 rfl (by kernel_rfl) rfl (fun _ => hs.to) (fun _ => E.move rfl) ?_
    refine D.evP 6 rfl (by kernel_rfl) rfl (fun _ => hs.to) (fun _ => E.indexAddr rfl rfl Tryd.underlying77 Tryd.sz29 rfl (by first | omega | decide)) ?_
    refine D.ev 3 rfl (by kernel_rfl) rfl hs.to (fun _ hS => E.loadRowC rfl Tryd.underlying79 rfl Tryd.sz79 ⟨A1 _ hS, Enc.len _⟩) ?_
    refine D.ev 7 rfl (by kernel_rfl) rfl hs.to (fun _ hS => E.loadRowC rfl Tryd.underlying29 rfl Tryd.sz29 ⟨A2 _ hS, Enc.len _⟩) ?_
    refine D.evP 8 rfl (by kernel_rfl) rfl (fun _ => hs.to) (fun _ => (E.neV 10 (a := y) (b := y) rfl rfl Tryd.lv79 rfl Tryd.underlying79 rfl Tryd.gd79).isB (c := false) (by simp)) ?_
    refine D.done rfl (by kernel_rfl) ?_
    refine X.keep [(3, _), (4, _), (6, _), (7, _), (8, _), (53, _)] ⟨rfl, rfl, rfl, rfl, rfl, rfl, trivial⟩ ?_
    refine X.next ?_
    refine C.cfalse rfl ?_
    refine C.skip ?_
    refine X.blockNormal ?_
    refine X.next ?_
    refine C.region ?_
    refine R.ev rfl (E.move rfl) ?_
    refine R.ev rfl (E.add rfl rfl (by omega) (by omega)) ?_
    refine R.ev rfl (E.assign rfl) ?_
    refine R.done ?_
    refine X.keep [(3, _), (4, _), (6, _), (7, _), (8, _)] ⟨rfl, rfl, rfl, rfl, rfl, trivial⟩ ?_
    exact X.again (k + 1) ⟨rfl, rfl, rfl, rfl, rfl, trivial⟩ ⟨by omega, hs⟩ (by omega)
  · refine C.exit ?_
    refine X.thenExit ?_
    refine X.loopExit ?_
    refine X.blockExit ?_
    refine X.next ?_
    refine C.seq ?_
    refine C.seq ?_
    refine C.region ?_
    refine R.ev rfl (E.assign rfl) ?_
    refine R.done ?_
    refine X.keep [(3, _), (4, _), (9, _)] ⟨rfl, rfl, rfl, trivial⟩ ?_
    refine X.next ?_
    refine C.block ?_
    refine C.loop  [(3, _), (4, _)] (fun i => [(9, .int .i64 (i : Nat))]) (fun i w' => i ≤ 16 ∧ Sat K2 w' [F22, F20, F]) (fun i => 16 - i) (0) ⟨rfl, rfl, rfl, trivial⟩ ⟨Nat.zero_le _, hs⟩ ?_
    rintro i w7 ⟨hi, hs⟩
    refine C.keep [(3, _), (4, _), (9, _)] ⟨rfl, rfl, rfl, trivial⟩ ?_
    refine C.seq ?_
    refine C.seq ?_
    refine C.region ?_
    refine R.ev rfl (E.move rfl) ?_
    refine R.ev rfl (E.lss rfl rfl) ?_
    refine R.done ?_
    refine X.keep [(3, _), (4, _), (9, _), (55, _)] ⟨rfl, rfl, rfl, rfl, trivial⟩ ?_
    refine X.next ?_
    refine C.cdec rfl (fun h55 => ?_) (fun h55 => ?_)
    · refine C.skip ?_
      refine X.next ?_
      refine C.seq ?_
      refine C.block ?_
      refine C.seq ?_
      refine C.region ?_
      refine R.ev rfl (E.move rfl) ?_
      refine R.ev rfl ((E.conv rfl Tryd.underlying3 Tryd.underlying5).as (u := ub (UInt8.ofNat i)) (by rw [IntKind.wrap_u8]; simp only [ub, Value.int.injEq, true_and]; rw [UInt8.toNat_ofNat']; omega)) ?_
      refine R.ev rfl ((E.buildOne (i := 31) rfl Tryd.underlying34 Tryd.zr34 Tryd.sz5 (by decide) rfl).as (u := .agg ((idn i).1.map ub).toArray) rfl) ?_
      have q2 := encV_len (idn i)
      refine R.sallocA hs Tryd.zr34 rfl ?_
      intro b10 w10 hs
      first | refine R.cstoreAll hs rfl rfl Tryd.sz34 (by first | rfl | assumption | exact encV_len _ | exact Enc.len _ | exact len_ub (by assumption) | simp [*]) (by first | rfl | assumption | exact encV_len _ | exact Enc.len _ | exact len_ub (by assumption) | simp [*]) (by first | assumption | exact OneL.all | exact Enc.one _ | exact ub_all _ | (repeat' (first | refine List.forall_mem_cons.2 ⟨?_, ?_⟩ | exact List.forall_mem_nil _ | rfl | exact OneC.one | exact KRow.oneC' (by assumption)))) ?_ | refine R.cstore hs rfl rfl Tryd.sz34 (by first | rfl | assumption | exact encV_len _ | exact Enc.len _ | exact len_ub (by assumption) | simp [*]) (by simp [*]) (by first | assumption | exact OneL.all | exact Enc.one _ | exact ub_all _ | (repeat' (first | refine List.forall_mem_cons.2 ⟨?_, ?_⟩ | exact List.forall_mem_nil _ | rfl | exact OneC.one | exact KRow.oneC' (by assumption)))) ?_
      intro w16_4 hs
      try simp only [List.set_cons_zero, List.set_cons_succ] at hs
      refine R.done ?_
      refine X.keep [(3, _), (4, _), (9, _), (10, _)] ⟨rfl, rfl, rfl, rfl, trivial⟩ ?_
      refine X.next ?_
      refine C.seq ?_
      refine C.drawn (SatS hs) ([1, 4], [0, 3, 6]) (by kernel_rfl) ?_
      have hs := hs.drew
      refine D.evP 0 rfl (by kernel_rfl) rfl (fun _ => hs.to) (fun _ => E.move rfl) ?_
      refine D.evP 3 rfl (by kernel_rfl) rfl (fun _ => hs.to) (fun _ => E.move rfl) ?_
      refine D.ev 1 rfl (by kernel_rfl) rfl hs.to (fun _ hS => E.loadRowC rfl Tryd.underlying34 rfl Tryd.sz34 (by first | exact ⟨hS.ldA, by first | rfl | assumption | exact encV_len _ | exact Enc.len _ | exact len_ub (by assumption)⟩ | exact ⟨hS.ldP rfl, by first | rfl | assumption | exact encV_len _ | exact Enc.len _ | exact len_ub (by assumption)⟩ | exact ⟨hS.ldM rfl rfl, by first | rfl | assumption | exact encV_len _ | exact Enc.len _ | exact len_ub (by assumption)⟩ | exact ⟨hS.ldM (by assumption) (by first | rfl | assumption), by first | rfl | assumption | exact encV_len _ | exact Enc.len _ | exact len_ub (by assumption)⟩ | exact ⟨by assumption, by first | rfl | assumption | exact encV_len _ | exact Enc.len _ | exact len_ub (by assumption)⟩ | exact ⟨(by assumption : ∀ w', Sat _ w' _ → At w' _ _ _) _ hS, by first | rfl | assumption | exact encV_len _ | exact Enc.len _ | exact len_ub (by assumption)⟩ | exact hS.ldp | exact At.partC (by assumption) | exact At.partC ((by assumption : ∀ w', Sat _ w' _ → At w' _ _ _) _ hS))) ?_
      refine D.ev 4 rfl (by kernel_rfl) rfl hs.to (fun _ hS => E.loadRowC rfl Tryd.underlying34 rfl Tryd.sz34 (by first | exact ⟨hS.ldA, by first | rfl | assumption | exact encV_len _ | exact Enc.len _ | exact len_ub (by assumption)⟩ | exact ⟨hS.ldP rfl, by first | rfl | assumption | exact encV_len _ | exact Enc.len _ | exact len_ub (by assumption)⟩ | exact ⟨hS.ldM rfl rfl, by first | rfl | assumption | exact encV_len _ | exact Enc.len _ | exact len_ub (by assumption)⟩ | exact ⟨hS.ldM (by assumption) (by first | rfl | assumption), by first | rfl | assumption | exact encV_len _ | exact Enc.len _ | exact len_ub (by assumption)⟩ | exact ⟨by assumption, by first | rfl | assumption | exact encV_len _ | exact Enc.len _ | exact len_ub (by assumption)⟩ | exact ⟨(by assumption : ∀ w', Sat _ w' _ → At w' _ _ _) _ hS, by first | rfl | assumption | exact encV_len _ | exact Enc.len _ | exact len_ub (by assumption)⟩ | exact hS.ldp | exact At.partC (by assumption) | exact At.partC ((by assumption : ∀ w', Sat _ w' _ → At w' _ _ _) _ hS))) ?_
      refine D.act 2 rfl (by kernel_rfl) ?_
      refine R.call ⟨_, _, Tryd.func32, rfl, by kernel_rfl⟩ rfl rfl (has_any (idn i) hI hs) ?_
      rintro _ w172 ⟨rfl, hs⟩
      refine D.back hs.to ?_
      refine D.act 5 rfl (by kernel_rfl) ?_
      refine R.call ⟨_, _, Tryd.func33, rfl, by kernel_rfl⟩ rfl rfl (rhas_any (idn i) hs (by omega)) ?_
      rintro _ w175 ⟨rfl, hs⟩
      refine D.backT (by kernel_rfl) ?_
      refine D.evP 6 rfl (by kernel_rfl) rfl (np (by kernel_rfl)) (fun _ => (E.neqB rfl rfl Tryd.underlying4).isB (c := false) (by simp)) ?_
      refine D.done rfl (by kernel_rfl) ?_
      refine X.keep [(3, _), (4, _), (9, _), (67, _)] ⟨rfl, rfl, rfl, rfl, trivial⟩ ?_
      refine X.next ?_
      refine C.cfalse rfl ?_
      refine C.skip ?_
      refine X.blockNormal ?_
      refine X.next ?_
      refine C.region ?_
      refine R.ev rfl (E.move rfl) ?_
      refine R.ev rfl (E.add rfl rfl (by omega) (by omega)) ?_
      refine R.ev rfl (E.assign rfl) ?_
      refine R.done ?_
      refine X.keep [(3, _), (4, _), (9, _)] ⟨rfl, rfl, rfl, trivial⟩ ?_
      exact X.again (i + 1) ⟨rfl, rfl, rfl, trivial⟩ ⟨by omega, hs.to⟩ (by omega)
    · refine C.exit ?_
      refine X.thenExit ?_
      refine X.loopExit ?_
      refine X.blockExit ?_
      refine X.next ?_
      refine C.seq ?_
      refine C.region ?_
      refine R.ev rfl (E.assign rfl) ?_
      refine R.done ?_
      refine X.keep [(2, _)] ⟨rfl, trivial⟩ ?_
      refine X.next ?_
      refine C.ret ?_
      refine X.ret1 rfl rfl ?_
      exact ⟨rfl, (hs.less hk2.le).mod⟩

namespace keyringAdds
open Go.ChangeShapes Go.WideShapes Go.ChangeAt Go.RowKit
open Go.ChangeMaps (open_string shut_string)
set_option linter.unusedVariables false

theorem own : ownKnob Tryd.prog.godebug = none := by kernel_rfl
theorem laidOut : laidOutB Tryd.prog = true := by kernel_rfl
theorem door_met (os : Os) (args : Array Value) : laidMetH Tryd.prog Rows.keyringAddsRow.laid ((World.doorLaid Tryd.prog 400 os).forCall (fun _ _ => 0) ⟨#[], args, []⟩).memory :=
  laidMetH_of_parts3 (fuel := 8) (laidMet_of_run' 8 (by kernel_rfl) (by kernel_rfl)) (by kernel_rfl) (by kernel_rfl)
set_option maxRecDepth 100000 in
theorem lifted (os : Os) (started : os.Started) (H : Type) (enc : TypeId × Value → H) :
    ReturnsInHanded {} Tryd.checked os 9 .any (fun w args => (Rows.keyringAddsSpec.pre enc Tryd.prog Tryd.f9 [] false w args ∧ laidMetH Tryd.prog Rows.keyringAddsRow.laid w) ∧ sizedMet enc Tryd.prog Tryd.f9 (OpenSpec.ofChange Rows.keyringAddsSpec) false w args)
      (Rows.keyringAddsSpec.post enc Tryd.prog Tryd.f9 false true false false) := by
  refine returnsInHanded_of_change_and (C := Tryd.checked) (X := fun w _ => laidMetH Tryd.prog Rows.keyringAddsRow.laid w) (fun _ _ _ hh h => h.of_heap hh) own started (by kernel_rfl) Tryd.func9
    (ChangeSpec.witness_shaped (enc := enc) (C := Tryd.checked) (os := os) (X := fun w _ => laidMetH Tryd.prog Rows.keyringAddsRow.laid w) false (World.doorLaid Tryd.prog 400 os) #[.slice none 0 0] 8 rfl (World.shaped_of_RefB (by kernel_rfl) (by kernel_rfl)) (by kernel_rfl) (by kernel_rfl) (by kernel_rfl) (door_met os _)) ?_
  intro W base args ds gs before hval0 hW _ _ hL _
  have hval : ∀ (j : Nat) t v, Tryd.f9.params[j]? = some t → args[j]? = some v → Value.okWide Tryd.prog W .any base t v := hval0
  have hW' := hW
  obtain ⟨p, q, hA0, hV, rfl, hfz, hnd⟩ := hW
  have hA : DataW.TrodAll enc Tryd.prog W 0 (fun _ => true) true Tryd.f9.params.toList args.toList ds p := hA0
  rw [Tryd.params9] at hA hval
  obtain ⟨v0, vs0, d0, ds0, p0, q0, hargs, rfl, rfl, h0, r0⟩ := trodAll_cons hA
  obtain ⟨rfl, rfl, rfl⟩ := trodAll_nil r0
  obtain rfl : args = #[v0] := by cases args; simp_all
  obtain ⟨rfl, rfl⟩ := trodVars_none hV
  have lt0 : ∀ x ∈ p0, x.block < W.heap.size := by obtain ⟨m, hm⟩ := h0; exact DataW.trod_lt m _ _ _ hm
  have a0 := Eng.argv_of (hval 0 22 v0 rfl rfl) h0
  clear hA0 hval0
  refine Calls.mono (kadds_walk W (laid_kc hL) v0 a0) fun e W' ⟨v, he, hv, hm⟩ => ?_
  subst he
  subst hv
  have bel := hm.below
  exact ⟨_, rfl, _, _, _, [], _, [], hW', trodAll_mk1 (shut_bool Tryd.underlying4 _), (trodAll_cons_mk (Below.trod laidOut (by kernel_rfl) (of_decide_eq_true (by kernel_rfl)) h0 bel lt0) trodAll_mk0), rfl, bel.frame _, fun h => by cases h⟩

theorem over : Rows.keyringAddsRow.holds Tryd.pinned (OpenSpec.ofChange Rows.keyringAddsSpec) :=
  OpenClaim.holds_of_wide 9 Tryd.f9 rfl rfl rfl rfl rfl rfl rfl ⟨rfl, rfl, rfl, rfl, rfl⟩ rfl rfl rfl rfl rfl (by kernel_rfl) Tryd.func9 (by kernel_rfl)
    (of_decide_eq_true (by kernel_rfl)) (by unfold Func.isWrapper; first | (rw [if_pos (by decide +kernel)]; kernel_rfl) | (rw [if_neg (by decide +kernel)]; exact ⟨rfl, rfl⟩))
    (fun os started H enc _ => lifted os started H enc)
end keyringAdds
/-- the statement: the tied card -/
theorem keyringAdds_holds : Rows.KeyringAddsCardSaid :=
  Claim7.holds_tied_plain_at .later [] [.data] true (true, "c0ab8a36735131c8a9cd87cc07d7b40f6a8e739a1cb5823313f320602ea95481") false
    keyringAdds.over (fun _ h => by cases h) (by kernel_rfl) (fun _ h => by cases h) keyringAdds_row_tie rfl ⟨rfl, rfl⟩ (by kernel_rfl) rfl
    (fun f fn hf hfn => by
      obtain rfl : f = 9 := Option.some.inj ((show Tryd.prog.funcNamed "bulletin/bulletinlaw19.KeyringAdds" = some 9 by kernel_rfl).symm.trans hf) |>.symm
      obtain rfl : fn = Tryd.f9 := (Option.some.inj (Tryd.func9.symm.trans hfn)).symm
      exact ⟨by kernel_rfl, fun j t ht => by
        rw [Tryd.params9] at ht
        have ht := List.mem_of_getElem? (by simpa using ht)
        have key : ∀ t ∈ ([22] : List TypeId), Tryd.prog.wantsStandIn t = false := by
          intro t ht
          simp only [List.mem_cons, List.not_mem_nil, or_false] at ht
          rcases ht with rfl <;> kernel_rfl
        exact key t (by simpa using ht)⟩)
    (by kernel_rfl)
#print axioms keyringAdds_holds
end Go.Proofs.YtbkgibgomohdjaaDoor
