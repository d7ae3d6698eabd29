/-
  EveryArticleIsOffered returns true for every input. No condition.
-/
import Derived.Test.YtifghjeapfijkaaGreatDoorRows
import Derived.Test.YtifghjeapfijkaaGreatDoorCards
import Derived.Test.YtifghjeapfijkaaGreatDoorTie
import Derived.Test.YtifghjeapfijkaaGreatDoorOpen
import Derived.LaidMore
import Derived.Lay
import Derived.SevenTiedAt
import Derived.Stop.Joined
import Derived.Test.YtifghjeapfijkaaGreatDoorTopR
import Derived.Test.YtifghjeapfijkaaGreatDoorTopP
import Derived.Test.YtifghjeapfijkaaGreatDoorRngD
import Derived.Test.YtifghjeapfijkaaGreatDoorMapR
import Derived.Test.YtifghjeapfijkaaGreatDoorMapE
namespace Go.Proofs.YtifghjeapfijkaaGreatDoor
open Go.Eng Go.RowKit

theorem wrap_ub (n : Nat) : Value.int .u8 (IntKind.u8.wrap ((n : Nat) : Int)) = ub (UInt8.ofNat n) := by
  show _ = Value.int .u8 _
  rw [IntKind.wrap_u8, UInt8.toNat_ofNat']; rfl
theorem nxtL_sub {s : Bk} (now most : Int) (L : List Ent) : (nxtL s now most L).Sublist (L.map Ent.id) := (List.take_sublist _ _).trans (List.filter_sublist.map _)
theorem nxt_none {s : Bk} (hm : s.M = []) {now : Int} (h0 : (nxtL s now 1 s.L).length = 0) : ∀ e ∈ s.L, now < e.due := fun e he => by
  have h1 : (s.L.filter (nxt s now)).length = 0 := by
    rw [nxtL, List.length_take, List.length_map] at h0
    have : (1 : Int).toNat = 1 := rfl
    omega
  rw [List.length_eq_zero_iff, List.filter_eq_nil_iff] at h1
  have h2 := h1 e he
  have h3 : s.out e.id = false := by rw [Bk.out, hm]; simp [lkM, findM]
  simp [nxt, h3] at h2
  exact h2
theorem list2 {x : List UInt8} (h : x.length = 2) : ∃ a b, x = [a, b] := by
  match x, h with
  | [a, b], _ => exact ⟨a, b, rfl⟩
/-- no listed variable is read -/
theorem laid_no {W : World} (_ : laidMetH Tryz.prog Rows.everyArticleIsOfferedRow.laid W) : True := trivial
set_option maxHeartbeats 8000000 in
theorem every_walk (w : World) (_hl : True) (v0 : Value) (a0 : ArgV Tryz.prog w 22 v0) (v1 : Value) (a1 : ArgV Tryz.prog w 23 v1) (v2 : Value) (a2 : ArgV Tryz.prog w 24 v2) : Ret Tryz.prog 3 #[v0, v1, v2] w fun r w' => r = .bool true ∧ Mod [] w w' := by
  obtain ⟨ad, cp, l, rfl, hcp1, hcp2, hkl⟩ := argv_arvs a0
  obtain ⟨⟨sz, hsz⟩, rfl⟩ := argv_vec (m := 2) a1 Tryz.underlying23 Tryz.underlying5 (by kernel_rfl) (by kernel_rfl)
  obtain ⟨s0, s1, rfl⟩ := list2 hsz
  obtain ⟨x0, rfl, hx0⟩ := argv_int a2 Tryz.underlying24
  have hx0 : 0 ≤ x0 ∧ x0 < 18446744073709551616 := by simp [Lit.wf] at hx0; exact ⟨hx0.1, Int.lt_of_le_of_lt hx0.2 (by decide)⟩
  have hs0 := s0.toNat_lt
  have hs1 := s1.toNat_lt
  generalize hn : l.length = n at hcp1
  have hkl : KRow encArv 4 (Kn.of w) (.slice ad n cp) l := by rw [hn] at hkl; exact hkl
  have hs := Sat.start w
  refine Ret.enter (n := 340) (args := [.slice ad n cp, idV [s0, s1], .int .u64 x0]) Tryz.func3 rfl rfl ?_
  refine C.keep [(0, _), (1, _), (2, _)] ⟨rfl, rfl, rfl, trivial⟩ ?_
  refine C.seq ?_
  refine C.region ?_
  refine R.sboxA hs rfl rfl ?_
  intro b4 w4 hs
  refine R.ev rfl (E.assign rfl) ?_
  refine R.done ?_
  refine X.keep [(0, _), (2, _), (4, _)] ⟨rfl, rfl, rfl, trivial⟩ ?_
  refine X.next ?_
  refine C.seq ?_
  refine C.seq ?_
  refine C.region ?_
  refine R.call ⟨_, _, Tryz.func4, rfl, by kernel_rfl⟩ rfl rfl (ready_any hs) ?_
  rintro _ w1 ⟨K1, hK1, rfl, hs⟩
  refine R.ev rfl (E.notT rfl) ?_
  refine R.ev rfl (E.move rfl) ?_
  refine R.gyes rfl rfl ?_
  refine R.ev rfl (E.move rfl) ?_
  refine R.gyes rfl rfl ?_
  refine R.ev rfl (E.lenSl rfl Tryz.underlying22) ?_
  refine R.gyes rfl rfl ?_
  refine R.ev rfl (E.gtr rfl rfl) ?_
  refine R.ev rfl (E.pickF rfl rfl) ?_
  refine R.done ?_
  refine X.keep [(0, _), (2, _), (4, _), (37, _)] ⟨rfl, rfl, rfl, rfl, trivial⟩ ?_
  refine X.next ?_
  refine C.cdec rfl (fun h37 => ?_) (fun h37 => ?_)
  · refine C.seq ?_
    refine C.region ?_
    refine R.call ⟨_, _, Tryz.func4, rfl, by kernel_rfl⟩ rfl rfl (ready_any hs) ?_
    rintro _ w2 ⟨K2, hK2, rfl, hs⟩
    refine R.ev rfl (E.assign rfl) ?_
    refine R.done ?_
    refine X.keep [(6, _)] ⟨rfl, trivial⟩ ?_
    refine X.next ?_
    refine C.ret ?_
    refine X.thenRet ?_
    refine X.ret1 rfl rfl ?_
    exact ⟨rfl, (hs.less (hK1.le.trans hK2.le)).mod⟩
  · refine C.skip ?_
    refine X.next ?_
    refine C.seq ?_
    refine C.region ?_
    refine R.ev rfl (E.indexAddrA0 0 0 rfl rfl Tryz.underlying23 Tryz.sz5 rfl rfl) ?_
    refine R.ev rfl (E.load1 rfl Tryz.underlying5 rfl (by first | exact hs.ldc | exact hs.ld rfl | exact hs.ld (by assumption) | exact by assumption | exact At.cellC (by assumption) | exact hs.ldK rfl)) ?_
    refine R.ev rfl ((E.rem rfl rfl (by decide) (by omega)).isI (c := ((s0.toNat % 20 : Nat) : Int)) (by omega)) ?_
    refine R.ev rfl ((E.conv rfl Tryz.underlying5 Tryz.underlying3).isI (c := ((s0.toNat % 20 : Nat) : Int)) (wrap_i64 (by omega) (by omega))) ?_
    refine R.ev rfl (E.buildG (r := ruleL ((s0.toNat % 20 : Nat) : Int)) rfl Tryz.underlying32 Tryz.zr32 Tryz.ql32 (by kernel_rfl) (by kernel_rfl) ⟨⟨_, rfl, rfl⟩, ⟨_, rfl, rfl⟩, ⟨_, rfl, rfl⟩, trivial⟩ rfl) ?_
    refine R.call ⟨_, _, Tryz.func5, rfl, by kernel_rfl⟩ rfl rfl (fcompile_any ((s0.toNat % 20 : Nat) : Int) (by omega) hs) ?_
    rintro _ w3 ⟨K3, f, hK3, rfl, hfd, hs⟩
    refine R.ev rfl (E.move rfl) ?_
    refine R.ev rfl (E.extract rfl rfl) ?_
    refine R.ev rfl (E.extract rfl rfl) ?_
    refine R.salloc1 hs Tryz.zr26 rfl rfl ?_
    intro b7 w7 hs
    refine R.cstore1 hs rfl rfl Tryz.sz26 (by first | decide | simp [*]) (by first | rfl | exact OneC.one | exact KRow.oneC' (by assumption)) ?_
    intro w3_10 hs
    try simp only [List.set_cons_zero, List.set_cons_succ] at hs
    refine R.ev rfl (E.assign rfl) ?_
    refine R.done ?_
    refine X.keep [(0, _), (2, _), (4, _), (7, _), (8, _)] ⟨rfl, rfl, rfl, rfl, rfl, trivial⟩ ?_
    refine X.next ?_
    refine C.seq ?_
    refine C.region ?_
    refine R.ev rfl (E.indexAddrA0 1 1 rfl rfl Tryz.underlying23 Tryz.sz5 rfl rfl) ?_
    refine R.ev rfl (E.load1 rfl Tryz.underlying5 rfl (by first | exact hs.ldc | exact hs.ld rfl | exact hs.ld (by assumption) | exact by assumption | exact At.cellC (by assumption) | exact hs.ldK rfl)) ?_
    refine R.ev rfl ((E.rem rfl rfl (by decide) (by omega)).isI (c := ((s1.toNat % 6 : Nat) : Int)) (by omega)) ?_
    refine R.ev rfl ((E.conv rfl Tryz.underlying5 Tryz.underlying3).isI (c := ((s1.toNat % 6 : Nat) : Int)) (wrap_i64 (by omega) (by omega))) ?_
    refine R.ev rfl ((E.add rfl rfl (by omega) (by omega)).isI (c := ((1 + s1.toNat % 6 : Nat) : Int)) (by omega)) ?_
    refine R.call ⟨_, _, Tryz.func6, rfl, by kernel_rfl⟩ rfl rfl (new_any ((1 + s1.toNat % 6 : Nat) : Int) 5 hs) ?_
    have hnew : newOk ((1 + s1.toNat % 6 : Nat) : Int) 5 = true := by simp [newOk, isCap, isWt]; omega
    rintro _ w4 (⟨h, _⟩ | ⟨_, pb, FB, rfl, hwb, hs⟩)
    · exact absurd (h.symm.trans hnew) (by decide)
    refine R.ev rfl (E.move rfl) ?_
    refine R.ev rfl (E.extract rfl rfl) ?_
    refine R.ev rfl (E.extract rfl rfl) ?_
    refine R.ev rfl (E.assign rfl) ?_
    refine R.ev rfl (E.assign rfl) ?_
    refine R.done ?_
    refine X.keep [(0, _), (2, _), (7, _), (8, _), (9, _), (10, _)] ⟨rfl, rfl, rfl, rfl, rfl, rfl, trivial⟩ ?_
    refine X.next ?_
    refine C.seq ?_
    refine C.region ?_
    refine R.call ⟨_, _, Tryz.func7, rfl, by kernel_rfl⟩ rfl rfl (Hist.new_any hs) ?_
    rintro _ w5 ⟨ph, FH, rfl, hwh, hs⟩
    refine R.ev rfl (E.assign rfl) ?_
    refine R.done ?_
    refine X.keep [(0, _), (2, _), (7, _), (8, _), (9, _), (10, _), (11, _)] ⟨rfl, rfl, rfl, rfl, rfl, rfl, rfl, trivial⟩ ?_
    refine X.next ?_
    refine C.seq ?_
    refine C.seq ?_
    refine C.region ?_
    refine R.ev rfl (E.move rfl) ?_
    refine R.ev rfl ((E.neq rfl rfl).isF (by decide)) ?_
    refine R.ev rfl (E.move rfl) ?_
    refine R.gyes rfl rfl ?_
    refine R.ev rfl (E.move rfl) ?_
    refine R.gyes rfl rfl ?_
    refine R.ev rfl ((E.neq rfl rfl).isF (by decide)) ?_
    refine R.ev rfl (E.pickF rfl rfl) ?_
    refine R.ev rfl (E.move rfl) ?_
    refine R.gyes rfl rfl ?_
    refine R.ev rfl (E.load1 rfl Tryz.underlying26 rfl (by first | exact hs.ldc | exact hs.ld rfl | exact hs.ld (by assumption) | exact by assumption | exact At.cellC (by assumption) | exact hs.ldK rfl)) ?_
    refine R.gyes rfl rfl ?_
    refine R.ev rfl (E.eqlNilF rfl rfl Tryz.underlying26) ?_
    refine R.ev rfl (E.pickF rfl rfl) ?_
    refine R.ev rfl (E.move rfl) ?_
    refine R.gyes rfl rfl ?_
    refine R.ev rfl (E.move rfl) ?_
    refine R.gyes rfl rfl ?_
    refine R.ev rfl (E.eqlNilF rfl rfl Tryz.underlying33) ?_
    refine R.ev rfl (E.pickF rfl rfl) ?_
    refine R.done ?_
    refine X.keep [(0, _), (2, _), (7, _), (9, _), (11, _), (71, _)] ⟨rfl, rfl, rfl, rfl, rfl, rfl, trivial⟩ ?_
    refine X.next ?_
    refine C.cfalse rfl ?_
    refine C.skip ?_
    refine X.next ?_
    refine C.seq ?_
    refine C.region ?_
    refine R.buildSlice1 (parts := [(0, _), (1, _), (2, _)]) (vs := [_, _, _]) rfl rfl rfl Tryz.underlying30 Tryz.sz9 Tryz.zr9 rfl (by simp [Value.oneCell']) (by decide) ?_
    intro b72 w72 n72
    have hs := hs.new n72
    have r72 : RowL 9 encS 1 (.slice (some ⟨b72, 0, none⟩) 3 3) grpL (row b72 9 [str [97], str [98], str [99]]) := ⟨⟨rfl, .inr ⟨b72, 3, [], rfl, rfl, by decide, by decide, rfl⟩⟩, fun y _ => rfl⟩
    obtain ⟨K4, hK4, hgr, hs⟩ := r72.freezeK hs
    have hK : KLe (Kn.of w) K4 := KLe.trans hK1 (KLe.trans hK3 hK4)
    have hfd : KFeed K4 f ((s0.toNat % 20 : Nat) : Int) := inferInstance
    refine R.ev rfl (E.assign rfl) ?_
    refine R.done ?_
    refine X.keep [(0, _), (2, _), (7, _), (9, _), (11, _), (12, _)] ⟨rfl, rfl, rfl, rfl, rfl, rfl, trivial⟩ ?_
    refine X.next ?_
    refine C.seq ?_
    refine C.region ?_
    refine R.cmake hs Tryz.underlying38 (evIt) rfl ?_
    intro v73 w73 F73 m73 hs
    refine R.salloc1 hs Tryz.zr38 rfl rfl ?_
    intro b13 w13 hs
    refine R.cstore1 hs rfl rfl Tryz.sz38 (by first | decide | simp [*]) (by first | rfl | exact OneC.one | exact KRow.oneC' (by assumption)) ?_
    intro w9_2 hs
    try simp only [List.set_cons_zero, List.set_cons_succ] at hs
    refine R.done ?_
    refine X.keep [(0, _), (2, _), (7, _), (9, _), (11, _), (12, _), (13, _)] ⟨rfl, rfl, rfl, rfl, rfl, rfl, rfl, trivial⟩ ?_
    refine X.next ?_
    refine C.seq ?_
    refine C.region ?_
    refine R.cmake hs Tryz.underlying39 (Value.bool) rfl ?_
    intro v74 w74 F74 m74 hs
    refine R.salloc1 hs Tryz.zr39 rfl rfl ?_
    intro b14 w14 hs
    refine R.cstore1 hs rfl rfl Tryz.sz39 (by first | decide | simp [*]) (by first | rfl | exact OneC.one | exact KRow.oneC' (by assumption)) ?_
    intro w10_2 hs
    try simp only [List.set_cons_zero, List.set_cons_succ] at hs
    refine R.done ?_
    refine X.keep [(0, _), (2, _), (7, _), (9, _), (11, _), (12, _), (13, _), (14, _)] ⟨rfl, rfl, rfl, rfl, rfl, rfl, rfl, rfl, trivial⟩ ?_
    refine X.next ?_
    refine C.seq ?_
    refine C.region ?_
    refine R.cmake hs Tryz.underlying40 ((Value.int .i64)) rfl ?_
    intro v75 w75 F75 m75 hs
    refine R.ev rfl (E.assign rfl) ?_
    refine R.done ?_
    refine X.keep [(0, _), (2, _), (7, _), (9, _), (11, _), (12, _), (13, _), (14, _), (15, _)] ⟨rfl, rfl, rfl, rfl, rfl, rfl, rfl, rfl, rfl, trivial⟩ ?_
    refine X.next ?_
    refine C.seq ?_
    refine C.region ?_
    refine R.ev rfl (E.assign rfl) ?_
    refine R.done ?_
    refine X.keep [(0, _), (2, _), (7, _), (9, _), (11, _), (12, _), (13, _), (14, _), (15, _), (16, _)] ⟨rfl, rfl, rfl, rfl, rfl, rfl, rfl, rfl, rfl, rfl, trivial⟩ ?_
    refine X.next ?_
    refine C.seq ?_
    refine C.region ?_
    refine R.ev rfl (E.assign rfl) ?_
    refine R.done ?_
    refine X.keep [(0, _), (2, _), (7, _), (9, _), (11, _), (12, _), (13, _), (14, _), (15, _), (16, _), (17, _)] ⟨rfl, rfl, rfl, rfl, rfl, rfl, rfl, rfl, rfl, rfl, rfl, trivial⟩ ?_
    refine X.next ?_
    refine C.seq ?_
    refine C.seq ?_
    refine C.region ?_
    refine R.ev rfl (E.assign rfl) ?_
    refine R.done ?_
    refine X.keep [(0, _), (2, _), (7, _), (9, _), (11, _), (12, _), (13, _), (14, _), (15, _), (16, _), (17, _), (18, _)] ⟨rfl, rfl, rfl, rfl, rfl, rfl, rfl, rfl, rfl, rfl, rfl, rfl, trivial⟩ ?_
    refine X.next ?_
    refine C.block ?_
    refine C.loop (T := Nat × Nat × Value × Hl × List Nat) [(0, _), (2, _), (7, _), (9, _), (11, _), (12, _), (13, _), (14, _), (15, _)] (fun (k, a, v, _) => [(16, .int .i64 (a : Nat)), (17, v), (18, .int .i64 (k : Nat))]) (fun (k, a, v, FM, M) w2 => k ≤ n ∧ a ≤ 8 * k ∧ M.length = k ∧ (∀ m ∈ M, m ≤ a) ∧ RowL 3 encK 1 v M FM ∧ Sat K4 w2 (FM :: FB :: FH :: F73 :: F74 :: F75 :: row b7 26 [ptr f] :: row b13 38 [v73] :: row b14 39 [v74] :: [])) (fun (k, _) => n - k) ((0, 0, .slice none 0 0, [], [])) ⟨rfl, rfl, rfl, rfl, rfl, rfl, rfl, rfl, rfl, rfl, rfl, rfl, trivial⟩ ⟨Nat.zero_le _, Nat.le_refl _, rfl, by simp, RowL.nil _ _ _, hs.nil.to⟩ ?_
    rintro ⟨k, a, v, FM, M⟩ w6 ⟨hk, ha, hM, hMa, rM, hs⟩
    refine C.keep [(0, _), (2, _), (7, _), (9, _), (11, _), (12, _), (13, _), (14, _), (15, _), (16, _), (17, _), (18, _)] ⟨rfl, rfl, rfl, rfl, rfl, rfl, rfl, rfl, rfl, rfl, rfl, rfl, trivial⟩ ?_
    refine C.seq ?_
    refine C.seq ?_
    refine C.region ?_
    refine R.ev rfl (E.move rfl) ?_
    refine R.ev rfl (E.move rfl) ?_
    refine R.ev rfl (E.lenSl rfl Tryz.underlying22) ?_
    refine R.ev rfl (E.lss rfl rfl) ?_
    refine R.done ?_
    refine X.keep [(0, _), (2, _), (7, _), (9, _), (11, _), (12, _), (13, _), (14, _), (15, _), (16, _), (17, _), (18, _), (79, _)] ⟨rfl, rfl, rfl, rfl, rfl, rfl, rfl, rfl, rfl, rfl, rfl, rfl, rfl, trivial⟩ ?_
    refine X.next ?_
    refine C.cdec rfl (fun h79 => ?_) (fun h79 => ?_)
    · obtain ⟨y, bk_y, of_y, hy, my, ly, rfl, Ay⟩ := hs.el (i := k) (ad := ad) (n := n) (c := cp) (by omega)
      have ay := Ay _ hs
      have hyw := y.w.toNat_lt
      refine C.skip ?_
      refine X.next ?_
      refine C.seq ?_
      refine C.block ?_
      refine C.seq ?_
      refine C.region ?_
      refine R.ev rfl (E.move rfl) ?_
      refine R.ev rfl (E.move rfl) ?_
      refine R.ev rfl (E.move rfl) ?_
      refine R.ev rfl (E.indexAddr rfl rfl Tryz.underlying22 Tryz.sz43 rfl (by first | omega | decide)) ?_
      first | refine R.ev rfl (E.fieldAddr0 1 rfl Tryz.underlying43 rfl Tryz.sz5 rfl) ?_ | refine R.ev rfl (E.fieldAddrN 1 rfl Tryz.underlying43 rfl Tryz.sz5 rfl) ?_
      refine R.ev rfl (E.load1 rfl Tryz.underlying5 rfl (by first | exact hs.ldc | exact hs.ld rfl | exact hs.ld (by assumption) | exact by assumption | exact At.cellC (by assumption) | exact hs.ldK rfl)) ?_
      refine R.ev rfl ((E.rem rfl rfl (by decide) (by omega)).isI (c := ((y.w.toNat % 8 : Nat) : Int)) (by omega)) ?_
      refine R.ev rfl ((E.conv rfl Tryz.underlying5 Tryz.underlying3).isI (c := ((y.w.toNat % 8 : Nat) : Int)) (wrap_i64 (by omega) (by omega))) ?_
      refine R.ev rfl ((E.add rfl rfl (by omega) (by omega)).isI (c := ((a + y.w.toNat % 8 : Nat) : Int)) (by omega)) ?_
      refine R.ev rfl (E.assign rfl) ?_
      refine R.done ?_
      refine X.keep [(0, _), (2, _), (7, _), (9, _), (11, _), (12, _), (13, _), (14, _), (15, _), (16, _), (17, _), (18, _)] ⟨rfl, rfl, rfl, rfl, rfl, rfl, rfl, rfl, rfl, rfl, rfl, rfl, trivial⟩ ?_
      refine X.next ?_
      refine C.region ?_
      refine R.ev rfl (E.move rfl) ?_
      refine R.ev rfl (E.move rfl) ?_
      refine R.buildSlice1 (parts := [(0, .tmp 92)]) (vs := [_]) rfl rfl rfl Tryz.underlying41 Tryz.sz3 Tryz.zr3 rfl (by simp [Value.oneCell']) (by decide) ?_
      intro b93 w93 n93
      have hs := hs.new n93
      refine R.capp1 ((a + y.w.toNat % 8)) hs rfl rfl Tryz.underlying41 Tryz.by3 (by rfl) rfl (by first | exact hs.ldA | exact hs.ldP rfl | exact by assumption) (by decide) (by first | omega | (simp only [List.length_append, List.length_cons, List.length_nil] at *; omega)) (by first | omega | (simp only [List.length_append, List.length_cons, List.length_nil] at *; omega)) ?_
      intro v94 w94 F94 r94 hs
      refine R.ev rfl (E.assign rfl) ?_
      refine R.done ?_
      refine X.keep [(0, _), (2, _), (7, _), (9, _), (11, _), (12, _), (13, _), (14, _), (15, _), (16, _), (17, _), (18, _)] ⟨rfl, rfl, rfl, rfl, rfl, rfl, rfl, rfl, rfl, rfl, rfl, rfl, trivial⟩ ?_
      refine X.blockNormal ?_
      refine X.next ?_
      refine C.region ?_
      refine R.ev rfl (E.move rfl) ?_
      refine R.ev rfl (E.add rfl rfl (by omega) (by omega)) ?_
      refine R.ev rfl (E.assign rfl) ?_
      refine R.done ?_
      refine X.keep [(0, _), (2, _), (7, _), (9, _), (11, _), (12, _), (13, _), (14, _), (15, _), (16, _), (17, _), (18, _)] ⟨rfl, rfl, rfl, rfl, rfl, rfl, rfl, rfl, rfl, rfl, rfl, rfl, trivial⟩ ?_
      exact X.again (k + 1, a + y.w.toNat % 8, v94, F94, M ++ [a + y.w.toNat % 8]) ⟨rfl, rfl, rfl, rfl, rfl, rfl, rfl, rfl, rfl, rfl, rfl, rfl, trivial⟩ ⟨by omega, by omega, by simp [hM], fun m hm => by rcases List.mem_append.1 hm with hm | hm; (have := hMa m hm; omega); (simp at hm; omega), r94, hs.to⟩ (by show _ - _ < _ - _; omega)
    · refine C.exit ?_
      refine X.thenExit ?_
      refine X.loopExit ?_
      refine X.blockExit ?_
      refine X.next ?_
      refine C.seq ?_
      refine C.seq ?_
      refine C.region ?_
      obtain rfl : n = k := by omega
      have hn30 : n ≤ 30 := by omega
      obtain ⟨adM, cM, rfl, hcM, _⟩ := rM.val
      have hm210 : ∀ k, M.getD k 0 ≤ a := fun k => by
        rw [List.getD_eq_getElem?_getD]
        cases hg : M[k]? with
        | none => simp
        | some m => simpa using hMa m (List.mem_of_getElem? hg)
      refine R.ev rfl (E.assign rfl) ?_
      refine R.done ?_
      refine X.keep [(0, _), (2, _), (7, _), (9, _), (11, _), (12, _), (13, _), (14, _), (15, _), (16, _), (17, _), (19, _)] ⟨rfl, rfl, rfl, rfl, rfl, rfl, rfl, rfl, rfl, rfl, rfl, rfl, trivial⟩ ?_
      refine X.next ?_
      refine C.block ?_
      refine C.loopD (T := Nat × List Nat × (Bk × Hl) × (List Nat × List Nat) × (Hl × Hl) × (List (Vec 32 × Bool) × Hl) × (List (Vec 32 × Int) × Hl)) (fun (_, ds, _) => ds.map mkD) [(0, _), (2, _), (7, _), (9, _), (11, _), (12, _), (13, _), (14, _), (15, _), (16, _), (17, _)] (fun (now, _) => [(19, .int .i64 (now : Nat))]) (fun (now, ds, (s, FB), (os, fs), (FH, FI), (AM, FA), (TM, FT)) w2 => (now ≤ a + 1200 ∧ EvQ n ((1 + s1.toNat % 6 : Nat) : Int) (laF l) (paF l) os (topN a now) s fs ∧ MpQ n (laF l) fs AM TM ∧ os.Nodup ∧ (∀ k, k < n → (k ∈ os ↔ M.getD k 0 < now)) ∧ (T0 a ≤ now → psi (laF l) (paF l) (now : Int) s fs ≤ 460 - (now - T0 a))) ∧ BkL pb s FB ∧ Hist.HiL ph ⟨hisM M os, 0⟩ FH ∧ MapL ekI evIt v73 (itmM l M b72 os) FI ∧ MapL ekI Value.bool v74 AM FA ∧ MapL ekI (Value.int .i64) v75 TM FT ∧ Sat K4 w2 (dfsP ds :: FB :: FH :: FI :: FA :: FT :: FM :: row b7 26 [ptr f] :: row b13 38 [v73] :: row b14 39 [v74] :: [])) (fun (now, _) => a + 1200 - now) ((0, [], (⟨((1 + s1.toNat % 6 : Nat) : Int), 5, false, [], []⟩, FB), ([], List.replicate n 0), (FH, F73), ([], F74), ([], F75))) ⟨rfl, rfl, rfl, rfl, rfl, rfl, rfl, rfl, rfl, rfl, rfl, rfl, trivial⟩ ⟨⟨by omega, EvQ.start hnew n _, MpQ.start, List.nodup_nil, by simp, fun h => absurd h (by unfold T0; omega)⟩, hwb, hwh, m73, m74, m75, (hs.nil.to : Sat K4 _ ([] :: FB :: FH :: F73 :: F74 :: F75 :: FM :: row b7 26 [ptr f] :: row b13 38 [v73] :: row b14 39 [v74] :: []))⟩ rfl ?_
      clear hs hwb hwh m73 m74 m75
      rintro ⟨now, ds, ⟨s, FB⟩, ⟨os, fs⟩, ⟨FH, FI⟩, ⟨AM, FA⟩, ⟨TM, FT⟩⟩ w7 ⟨⟨hnow, hev, hmp, hnd, har, hps⟩, hwb, hwh, mI, mA, mT, hs⟩
      refine C.keep [(0, _), (2, _), (7, _), (9, _), (11, _), (12, _), (13, _), (14, _), (15, _), (16, _), (17, _), (19, _)] ⟨rfl, rfl, rfl, rfl, rfl, rfl, rfl, rfl, rfl, rfl, rfl, rfl, trivial⟩ ?_
      refine C.seq ?_
      refine C.seq ?_
      refine C.region ?_
      refine R.ev rfl (E.move rfl) ?_
      refine R.ev rfl (E.move rfl) ?_
      refine R.ev rfl (E.add rfl rfl (by omega) (by omega)) ?_
      refine R.ev rfl (E.lss rfl rfl) ?_
      refine R.done ?_
      refine X.keep [(0, _), (2, _), (7, _), (9, _), (11, _), (12, _), (13, _), (14, _), (15, _), (16, _), (17, _), (19, _), (98, _)] ⟨rfl, rfl, rfl, rfl, rfl, rfl, rfl, rfl, rfl, rfl, rfl, rfl, rfl, trivial⟩ ?_
      refine X.next ?_
      refine C.cdec rfl (fun h98 => ?_) (fun h98 => ?_)
      · refine C.skip ?_
        refine X.next ?_
        refine C.seq ?_
        refine C.block ?_
        refine C.seq ?_
        refine C.seq ?_
        refine C.region ?_
        refine R.ev rfl (E.assign rfl) ?_
        refine R.done ?_
        refine X.keep [(0, _), (2, _), (7, _), (9, _), (11, _), (12, _), (13, _), (14, _), (15, _), (16, _), (17, _), (19, _), (20, _)] ⟨rfl, rfl, rfl, rfl, rfl, rfl, rfl, rfl, rfl, rfl, rfl, rfl, rfl, trivial⟩ ?_
        refine X.next ?_
        refine C.block ?_
        refine C.loop (T := Nat × (Bk × Hl) × List Nat × (Hl × Hl)) [(0, _), (2, _), (7, _), (9, _), (11, _), (12, _), (13, _), (14, _), (15, _), (16, _), (17, _), (19, _)] (fun (i, _) => [(20, .int .i64 (i : Nat))]) (fun (i, (s2, FB), os, (FH, FI)) w2 => (i ≤ n ∧ EvQ n ((1 + s1.toNat % 6 : Nat) : Int) (laF l) (paF l) os (topN a now) s2 fs ∧ os.Nodup ∧ (∀ k, k < n → (k ∈ os ↔ M.getD k 0 < now ∨ (M.getD k 0 = now ∧ k < i))) ∧ (a < now → s2 = s)) ∧ BkL pb s2 FB ∧ Hist.HiL ph ⟨hisM M os, 0⟩ FH ∧ MapL ekI evIt v73 (itmM l M b72 os) FI ∧ Sat K4 w2 (dfsP ds :: FB :: FH :: FI :: FA :: FT :: FM :: row b7 26 [ptr f] :: row b13 38 [v73] :: row b14 39 [v74] :: [])) (fun (i, _) => n - i) ((0, (s, FB), os, (FH, FI))) ⟨rfl, rfl, rfl, rfl, rfl, rfl, rfl, rfl, rfl, rfl, rfl, rfl, rfl, trivial⟩ ⟨⟨Nat.zero_le _, hev, hnd, by simpa using har, fun _ => rfl⟩, hwb, hwh, mI, hs⟩ ?_
        clear hs hwb hwh mI hev hnd har
        rintro ⟨i, ⟨s2, FB⟩, os, ⟨FH, FI⟩⟩ w8 ⟨⟨hi, hev, hnd, har, hsame⟩, hwb, hwh, mI, hs⟩
        have hsl : s2.L.length ≤ 6 := by have := hev.b.le; rw [hev.cap] at this; omega
        refine C.keep [(0, _), (2, _), (7, _), (9, _), (11, _), (12, _), (13, _), (14, _), (15, _), (16, _), (17, _), (19, _), (20, _)] ⟨rfl, rfl, rfl, rfl, rfl, rfl, rfl, rfl, rfl, rfl, rfl, rfl, rfl, trivial⟩ ?_
        refine C.seq ?_
        refine C.seq ?_
        refine C.region ?_
        refine R.ev rfl (E.move rfl) ?_
        refine R.ev rfl (E.move rfl) ?_
        refine R.ev rfl (E.lenSl rfl Tryz.underlying22) ?_
        refine R.ev rfl (E.lss rfl rfl) ?_
        refine R.done ?_
        refine X.keep [(0, _), (2, _), (7, _), (9, _), (11, _), (12, _), (13, _), (14, _), (15, _), (16, _), (17, _), (19, _), (20, _), (104, _)] ⟨rfl, rfl, rfl, rfl, rfl, rfl, rfl, rfl, rfl, rfl, rfl, rfl, rfl, rfl, trivial⟩ ?_
        refine X.next ?_
        refine C.cdec rfl (fun h104 => ?_) (fun h104 => ?_)
        · obtain ⟨u, bk_u, of_u, hu, mu, lu, rfl, Au⟩ := hs.el (i := i) (ad := adM) (n := M.length) (c := cM) (by omega)
          have au := Au _ hs
          obtain ⟨y, bk_y, of_y, hy, my, ly, rfl, Ay⟩ := hs.el (i := i) (ad := ad) (n := n) (c := cp) (by omega)
          have ay := Ay _ hs
          have hu0 : M.getD i 0 = u := getD_of hu
          have hy0 : l.getD i default = y := getD_of hy
          have hg3 := grp_lt l i
          have hgl : grpF l i = y.g.toNat % 3 := by rw [grpF, hy0]
          have hsf : sndF l i = y.snd := by rw [sndF, hy0]
          have hyg := y.g.toNat_lt
          refine C.skip ?_
          refine X.next ?_
          refine C.seq ?_
          refine C.block ?_
          refine C.seq ?_
          refine C.seq ?_
          refine C.region ?_
          refine R.ev rfl (E.move rfl) ?_
          refine R.ev rfl (E.move rfl) ?_
          refine R.ev rfl (E.indexAddr (i := i) rfl rfl Tryz.underlying41 Tryz.sz3 rfl (by omega)) ?_
          refine R.ev rfl (E.load1 rfl Tryz.underlying3 rfl (au 0 _ rfl)) ?_
          refine R.ev rfl (E.move rfl) ?_
          refine R.ev rfl (E.neq rfl rfl) ?_
          refine R.done ?_
          refine X.keep [(0, _), (2, _), (7, _), (9, _), (11, _), (12, _), (13, _), (14, _), (15, _), (16, _), (17, _), (19, _), (20, _), (112, _)] ⟨rfl, rfl, rfl, rfl, rfl, rfl, rfl, rfl, rfl, rfl, rfl, rfl, rfl, rfl, trivial⟩ ?_
          refine X.next ?_
          refine C.cdec rfl (fun h112 => ?_) (fun h112 => ?_)
          · refine C.exit ?_
            refine X.thenExit ?_
            refine X.blockExit ?_
            refine X.next ?_
            refine C.region ?_
            refine R.ev rfl (E.move rfl) ?_
            refine R.ev rfl (E.add rfl rfl (by omega) (by omega)) ?_
            refine R.ev rfl (E.assign rfl) ?_
            refine R.done ?_
            refine X.keep [(0, _), (2, _), (7, _), (9, _), (11, _), (12, _), (13, _), (14, _), (15, _), (16, _), (17, _), (19, _), (20, _)] ⟨rfl, rfl, rfl, rfl, rfl, rfl, rfl, rfl, rfl, rfl, rfl, rfl, rfl, trivial⟩ ?_
            have har2 : u = now → ∀ k, k < n → (k ∈ os ++ [i] ↔ M.getD k 0 < now ∨ (M.getD k 0 = now ∧ k < i + 1)) := fun hun k hk => by
              rw [List.mem_append, har k hk, List.mem_singleton]
              by_cases e : k = i
              · subst e; rw [hu0]; omega
              · omega
            have hnd2 : i ∉ os → (os ++ [i]).Nodup := fun hno => by rw [List.nodup_append]; exact ⟨hnd, by simp, fun x hx y hy e => by simp at hy; subst hy e; exact hno hx⟩
            have hpm : i ∉ os → putM (idq i) (itm l M b72 i) (itmM l M b72 os) = itmM l M b72 (os ++ [i]) := fun hno => put_map (itm l M b72) (fun k hk => by have := hev.olt k hk; omega) (by omega) hno
            have har3 : u ≠ now → ∀ k, k < n → (k ∈ os ↔ M.getD k 0 < now ∨ (M.getD k 0 = now ∧ k < i + 1)) := fun hne k hk => by
              rw [har k hk]
              by_cases e : k = i
              · subst e; rw [hu0]; omega
              · omega
            first
              | (rw [hpm hno] at m29_4
                 exact X.again (i + 1, (_, F34), os ++ [i], (F30, F29_4)) ⟨rfl, rfl, rfl, rfl, rfl, rfl, rfl, rfl, rfl, rfl, rfl, rfl, rfl, trivial⟩ ⟨⟨by omega, hev.arrive hn30 (by omega) hno hpa (by unfold topN; have := hm210 i; omega) (by simp only [isMin, Bool.and_eq_true, decide_eq_true_eq]; omega), hnd2 hno, har2 hun, fun h => absurd h (by have := hm210 i; omega)⟩, hw34, hw30, m29_4, hs.to⟩ (by show _ - _ < _ - _; omega))
              | (rw [hpm hno] at m29_4
                 exact X.again (i + 1, (s2, FB), os ++ [i], (F30, F29_4)) ⟨rfl, rfl, rfl, rfl, rfl, rfl, rfl, rfl, rfl, rfl, rfl, rfl, rfl, trivial⟩ ⟨⟨by omega, hev.skip (by omega) hpa, hnd2 hno, har2 hun, hsame⟩, hwb, hw30, m29_4, hs.to⟩ (by show _ - _ < _ - _; omega))
              | exact X.again (i + 1, (s2, FB), os, (FH, FI)) ⟨rfl, rfl, rfl, rfl, rfl, rfl, rfl, rfl, rfl, rfl, rfl, rfl, rfl, trivial⟩ ⟨⟨by omega, hev, hnd, har3 (by omega), hsame⟩, hwb, hwh, mI, hs.to⟩ (by show _ - _ < _ - _; omega)
          · have hun : u = now := by omega
            have hno : i ∉ os := fun h => by have := (har i (by omega)).1 h; omega
            refine C.skip ?_
            refine X.next ?_
            refine C.seq ?_
            refine C.drawn (SatS hs) ([9, 16], [0, 1, 2, 3, 4, 5, 6, 7, 8, 10, 11, 12, 13, 14, 15, 17, 18, 19, 20, 21, 22]) (by kernel_rfl) ?_
            have hs := hs.drew
            refine D.evP 0 rfl (by kernel_rfl) rfl (fun _ => hs.to) (fun _ => E.move rfl) ?_
            refine D.evP 1 rfl (by kernel_rfl) rfl (fun _ => hs.to) (fun _ => (E.sub rfl rfl (by omega) (by omega)).isI (c := ((40 - i : Nat) : Int)) (by omega)) ?_
            refine D.evP 2 rfl (by kernel_rfl) rfl (fun _ => hs.to) (fun _ => (E.conv rfl Tryz.underlying3 Tryz.underlying5).as (u := ub (UInt8.ofNat (40 - i))) (wrap_ub _)) ?_
            refine D.evP 3 rfl (by kernel_rfl) rfl (fun _ => hs.to) (fun _ => (E.buildA rfl Tryz.underlying45 Tryz.zr45 Tryz.sz5 rfl).as (u := .agg (encV (idq i)).toArray) (by rfl)) ?_
            refine D.evP 4 rfl (by kernel_rfl) rfl (fun _ => hs.to) (fun _ => E.move rfl) ?_
            refine D.evP 5 rfl (by kernel_rfl) rfl (fun _ => hs.to) (fun _ => E.move rfl) ?_
            refine D.evP 6 rfl (by kernel_rfl) rfl (fun _ => hs.to) (fun _ => E.move rfl) ?_
            refine D.evP 7 rfl (by kernel_rfl) rfl (fun _ => hs.to) (fun _ => E.indexAddr rfl rfl Tryz.underlying22 Tryz.sz43 rfl (by first | omega | decide)) ?_
            first | refine D.evP 8 rfl (by kernel_rfl) rfl (fun _ => hs.to) (fun _ => E.fieldAddr0 0 rfl Tryz.underlying43 rfl Tryz.sz5 rfl) ?_ | refine D.evP 8 rfl (by kernel_rfl) rfl (fun _ => hs.to) (fun _ => E.fieldAddrN 0 rfl Tryz.underlying43 rfl Tryz.sz5 rfl) ?_
            refine D.evP 12 rfl (by kernel_rfl) rfl (fun _ => hs.to) (fun _ => E.move rfl) ?_
            refine D.evP 13 rfl (by kernel_rfl) rfl (fun _ => hs.to) (fun _ => E.move rfl) ?_
            refine D.evP 14 rfl (by kernel_rfl) rfl (fun _ => hs.to) (fun _ => E.indexAddr rfl rfl Tryz.underlying22 Tryz.sz43 rfl (by first | omega | decide)) ?_
            first | refine D.evP 15 rfl (by kernel_rfl) rfl (fun _ => hs.to) (fun _ => E.fieldAddr0 0 rfl Tryz.underlying43 rfl Tryz.sz5 rfl) ?_ | refine D.evP 15 rfl (by kernel_rfl) rfl (fun _ => hs.to) (fun _ => E.fieldAddrN 0 rfl Tryz.underlying43 rfl Tryz.sz5 rfl) ?_
            refine D.evP 21 rfl (by kernel_rfl) rfl (fun _ => hs.to) (fun _ => E.move rfl) ?_
            refine D.ev 9 rfl (by kernel_rfl) rfl hs.to (fun _ hS => E.load1 rfl Tryz.underlying5 rfl (by first | exact hS.ldc | exact hS.ld rfl | exact hS.ld (by assumption) | exact by assumption | exact At.cellC (by assumption) | exact hS.ldK rfl | exact At.cellC ((by assumption : ∀ w', Sat _ w' _ → At w' _ _ _) _ hS) | exact (by assumption : ∀ w', Sat _ w' _ → World.cell? w' _ = some _) _ hS)) ?_
            refine D.evP 10 rfl (by kernel_rfl) rfl (fun _ => hs.to) (fun _ => (E.conv rfl Tryz.underlying5 Tryz.underlying3).isI (c := ((y.g.toNat : Nat) : Int)) (wrap_i64 (by omega) (by omega))) ?_
            refine D.evP 11 rfl (by kernel_rfl) rfl (fun _ => hs.to) (fun _ => (E.rem rfl rfl (by decide) (by omega)).isI (c := ((grpF l i : Nat) : Int)) (by omega)) ?_
            refine D.ev 16 rfl (by kernel_rfl) rfl hs.to (fun _ hS => E.load1 rfl Tryz.underlying5 rfl (by first | exact hS.ldc | exact hS.ld rfl | exact hS.ld (by assumption) | exact by assumption | exact At.cellC (by assumption) | exact hS.ldK rfl | exact At.cellC ((by assumption : ∀ w', Sat _ w' _ → At w' _ _ _) _ hS) | exact (by assumption : ∀ w', Sat _ w' _ → World.cell? w' _ = some _) _ hS)) ?_
            refine D.evP 17 rfl (by kernel_rfl) rfl (fun _ => hs.to) (fun _ => (E.conv rfl Tryz.underlying5 Tryz.underlying3).isI (c := ((y.g.toNat : Nat) : Int)) (wrap_i64 (by omega) (by omega))) ?_
            refine D.evP 18 rfl (by kernel_rfl) rfl (fun _ => hs.to) (fun _ => (E.rem rfl rfl (by decide) (by omega)).isI (c := ((grpF l i : Nat) : Int)) (by omega)) ?_
            refine D.evP 19 rfl (by kernel_rfl) rfl (fun _ => hs.to) (fun _ => (E.add rfl rfl (by omega) (by omega)).isI (c := ((grpF l i + 1 : Nat) : Int)) (by omega)) ?_
            refine D.evP 20 rfl (by kernel_rfl) rfl (fun _ => hs.to) (fun _ => (E.sliceLH rfl rfl rfl Tryz.underlying30 Tryz.sz9 rfl rfl (by omega) (by omega)).as (u := .slice (some ⟨b72, grpF l i, none⟩) 1 (3 - grpF l i)) (by rw [if_neg (by omega), show grpF l i + 1 - grpF l i = 1 by omega, Nat.zero_add, Nat.mul_one])) ?_
            refine D.evP 22 rfl (by kernel_rfl) rfl (fun _ => hs.to) (fun _ => E.buildG (r := encIt (⟨idq i, some ⟨b72, grpF l i, none⟩, 1, 3 - grpF l i, 5, [], ((now : Nat) : Int)⟩ : It)) rfl Tryz.underlying47 Tryz.zr47 Tryz.ql47 (by kernel_rfl) (by kernel_rfl) ⟨⟨_, rfl, by first | rfl | exact vsz _ | simp [Value.cells, *]⟩, ⟨_, rfl, by first | rfl | exact vsz _ | simp [Value.cells, *]⟩, ⟨_, rfl, by first | rfl | exact vsz _ | simp [Value.cells, *]⟩, ⟨_, rfl, by first | rfl | exact vsz _ | simp [Value.cells, *]⟩, trivial⟩ (by first | rfl | simp [setF, fieldsOf, Value.cells])) ?_
            refine D.act 23 rfl (by kernel_rfl) ?_
            refine R.sallocA hs Tryz.zr47 rfl ?_
            intro b21 w21 hs
            refine D.back hs.to ?_
            refine D.act 24 rfl (by kernel_rfl) ?_
            first | refine R.cstoreAll hs rfl rfl Tryz.sz47 (by first | rfl | assumption | exact encV_len _ | exact Enc.len _ | exact len_ub (by assumption) | simp [*]) (by first | rfl | assumption | exact encV_len _ | exact Enc.len _ | exact len_ub (by assumption) | simp [*]) (by first | assumption | exact OneL.all | exact Enc.one _ | exact ub_all _ | (repeat' (first | refine List.forall_mem_cons.2 ⟨?_, ?_⟩ | exact List.forall_mem_nil _ | rfl | exact OneC.one | exact KRow.oneC' (by assumption)))) ?_ | refine R.cstore hs rfl rfl Tryz.sz47 (by first | rfl | assumption | exact encV_len _ | exact Enc.len _ | exact len_ub (by assumption) | simp [*]) (by simp [*]) (by first | assumption | exact OneL.all | exact Enc.one _ | exact ub_all _ | (repeat' (first | refine List.forall_mem_cons.2 ⟨?_, ?_⟩ | exact List.forall_mem_nil _ | rfl | exact OneC.one | exact KRow.oneC' (by assumption)))) ?_
            intro w26_24 hs
            try simp only [List.set_cons_zero, List.set_cons_succ] at hs
            refine D.backT (by kernel_rfl) ?_
            refine D.done rfl (by kernel_rfl) ?_
            refine X.keep [(0, _), (2, _), (7, _), (9, _), (11, _), (12, _), (13, _), (14, _), (15, _), (16, _), (17, _), (19, _), (20, _), (21, _)] ⟨rfl, rfl, rfl, rfl, rfl, rfl, rfl, rfl, rfl, rfl, rfl, rfl, rfl, rfl, trivial⟩ ?_
            refine X.next ?_
            refine C.seq ?_
            refine C.seq ?_
            refine C.region ?_
            replace Ay := hs.elAt (b := bk_y) (off := of_y) (n := n) (cp) hy
            have ay := Ay _ hs
            refine R.ev rfl (E.move rfl) ?_
            refine R.ev rfl (E.move rfl) ?_
            refine R.ev rfl (E.indexAddr rfl rfl Tryz.underlying22 Tryz.sz43 rfl (by first | omega | decide)) ?_
            first | refine R.ev rfl (E.fieldAddr0 3 rfl Tryz.underlying43 rfl Tryz.sz4 rfl) ?_ | refine R.ev rfl (E.fieldAddrN 3 rfl Tryz.underlying43 rfl Tryz.sz4 rfl) ?_
            refine R.ev rfl (E.load1 rfl Tryz.underlying4 rfl (by first | exact hs.ldc | exact hs.ld rfl | exact hs.ld (by assumption) | exact by assumption | exact At.cellC (by assumption) | exact hs.ldK rfl)) ?_
            refine R.done ?_
            refine X.keep [(0, _), (2, _), (7, _), (9, _), (11, _), (12, _), (13, _), (14, _), (15, _), (16, _), (17, _), (19, _), (20, _), (21, _), (140, _)] ⟨rfl, rfl, rfl, rfl, rfl, rfl, rfl, rfl, rfl, rfl, rfl, rfl, rfl, rfl, rfl, trivial⟩ ?_
            refine X.next ?_
            refine C.cut [(0, _), (2, _), (7, _), (9, _), (11, _), (12, _), (13, _), (14, _), (15, _), (16, _), (17, _), (19, _), (20, _), (21, _)] (fun (() : Unit) => []) (fun _ w2 => Sat K4 w2 (row b21 47 (encIt (itm l M b72 i)) :: dfsP ds :: FB :: FH :: FI :: FA :: FT :: FM :: row b7 26 [ptr f] :: row b13 38 [v73] :: row b14 39 [v74] :: [])) ⟨rfl, rfl, rfl, rfl, rfl, rfl, rfl, rfl, rfl, rfl, rfl, rfl, rfl, rfl, trivial⟩ ?_ ?_
            · refine C.cbool rfl (fun h140 => ?_) (fun h140 => ?_)
              · have eA : (encIt (itF l M b72 i [])).set 36 (str [120]) = encIt (itm l M b72 i) := by simp [encIt, itF, itm, hsf, h140, (idq i).2, List.set_append]
                refine C.region ?_
                first | refine R.ev rfl (E.fieldAddr0 36 rfl Tryz.underlying47 rfl Tryz.sz9 rfl) ?_ | refine R.ev rfl (E.fieldAddrN 36 rfl Tryz.underlying47 rfl Tryz.sz9 rfl) ?_
                refine R.cstore1 hs rfl rfl Tryz.sz9 (by rw [Enc.len]; decide) rfl ?_
                intro w28 hs
                refine R.done ?_
                refine X.keep [(0, _), (2, _), (7, _), (9, _), (11, _), (12, _), (13, _), (14, _), (15, _), (16, _), (17, _), (19, _), (20, _), (21, _)] ⟨rfl, rfl, rfl, rfl, rfl, rfl, rfl, rfl, rfl, rfl, rfl, rfl, rfl, rfl, trivial⟩ ?_
                refine X.cut (()) ⟨rfl, rfl, rfl, rfl, rfl, rfl, rfl, rfl, rfl, rfl, rfl, rfl, rfl, rfl, trivial⟩ ?_
                have e0 : (⟨idq i, some ⟨b72, grpF l i, none⟩, 1, 3 - grpF l i, 5, [], ((now : Nat) : Int)⟩ : It) = itF l M b72 i [] := by rw [itF, hu0, hun]
                rw [e0] at hs
                first
                  | (rw [eA] at hs
                     exact hs.to)
                  | (rw [eB]
                     exact hs.to)
              · have eB : itm l M b72 i = itF l M b72 i [] := by rw [itm, hsf, h140]; rfl
                refine C.skip ?_
                refine X.cut (()) ⟨rfl, rfl, rfl, rfl, rfl, rfl, rfl, rfl, rfl, rfl, rfl, rfl, rfl, rfl, trivial⟩ ?_
                have e0 : (⟨idq i, some ⟨b72, grpF l i, none⟩, 1, 3 - grpF l i, 5, [], ((now : Nat) : Int)⟩ : It) = itF l M b72 i [] := by rw [itF, hu0, hun]
                rw [e0] at hs
                first
                  | (rw [eA] at hs
                     exact hs.to)
                  | (rw [eB]
                     exact hs.to)
            · rintro _ w27 hs
              refine X.keep [(0, _), (2, _), (7, _), (9, _), (11, _), (12, _), (13, _), (14, _), (15, _), (16, _), (17, _), (19, _), (20, _), (21, _)] ⟨rfl, rfl, rfl, rfl, rfl, rfl, rfl, rfl, rfl, rfl, rfl, rfl, rfl, rfl, trivial⟩ ?_
              refine X.next ?_
              refine C.seq ?_
              refine C.region ?_
              refine R.ev rfl (E.load1 rfl Tryz.underlying38 rfl (by first | exact hs.ldc | exact hs.ld rfl | exact hs.ld (by assumption) | exact by assumption | exact At.cellC (by assumption) | exact hs.ldK rfl)) ?_
              first | refine R.ev rfl (E.fieldAddr0 0 rfl Tryz.underlying47 rfl Tryz.sz45 rfl) ?_ | refine R.ev rfl (E.fieldAddrN 0 rfl Tryz.underlying47 rfl Tryz.sz45 rfl) ?_
              refine R.ev rfl (E.loadRowC rfl Tryz.underlying45 rfl Tryz.sz45 (by first | exact ⟨hs.ldA, by first | rfl | assumption | exact encV_len _ | exact Enc.len _ | exact len_ub (by assumption)⟩ | exact ⟨hs.ldP rfl, by first | rfl | assumption | exact encV_len _ | exact Enc.len _ | exact len_ub (by assumption)⟩ | exact ⟨hs.ldM rfl rfl, by first | rfl | assumption | exact encV_len _ | exact Enc.len _ | exact len_ub (by assumption)⟩ | exact ⟨hs.ldM (by assumption) (by first | rfl | assumption), by first | rfl | assumption | exact encV_len _ | exact Enc.len _ | exact len_ub (by assumption)⟩ | exact ⟨by assumption, by first | rfl | assumption | exact encV_len _ | exact Enc.len _ | exact len_ub (by assumption)⟩ | exact hs.ldp | exact At.partC (by assumption))) ?_
              refine R.ev rfl (E.loadRowC rfl Tryz.underlying47 rfl Tryz.sz47 (by first | exact ⟨hs.ldA, by first | rfl | assumption | exact encV_len _ | exact Enc.len _ | exact len_ub (by assumption)⟩ | exact ⟨hs.ldP rfl, by first | rfl | assumption | exact encV_len _ | exact Enc.len _ | exact len_ub (by assumption)⟩ | exact ⟨hs.ldM rfl rfl, by first | rfl | assumption | exact encV_len _ | exact Enc.len _ | exact len_ub (by assumption)⟩ | exact ⟨hs.ldM (by assumption) (by first | rfl | assumption), by first | rfl | assumption | exact encV_len _ | exact Enc.len _ | exact len_ub (by assumption)⟩ | exact ⟨by assumption, by first | rfl | assumption | exact encV_len _ | exact Enc.len _ | exact len_ub (by assumption)⟩ | exact hs.ldp | exact At.partC (by assumption))) ?_
              refine R.cput ((idq i)) ((itm l M b72 i)) hs rfl rfl rfl Tryz.underlying38 (by rfl) (by rfl) ?_
              intro w29_4 F29_4 m29_4 hs
              refine R.done ?_
              refine X.keep [(0, _), (2, _), (7, _), (9, _), (11, _), (12, _), (13, _), (14, _), (15, _), (16, _), (17, _), (19, _), (20, _), (21, _)] ⟨rfl, rfl, rfl, rfl, rfl, rfl, rfl, rfl, rfl, rfl, rfl, rfl, rfl, rfl, trivial⟩ ?_
              refine X.next ?_
              refine C.seq ?_
              refine C.seq ?_
              refine C.region ?_
              refine R.ev rfl (E.move rfl) ?_
              first | refine R.ev rfl (E.fieldAddr0 0 rfl Tryz.underlying47 rfl Tryz.sz45 rfl) ?_ | refine R.ev rfl (E.fieldAddrN 0 rfl Tryz.underlying47 rfl Tryz.sz45 rfl) ?_
              refine R.ev rfl (E.loadRowC rfl Tryz.underlying45 rfl Tryz.sz45 (by first | exact ⟨hs.ldA, by first | rfl | assumption | exact encV_len _ | exact Enc.len _ | exact len_ub (by assumption)⟩ | exact ⟨hs.ldP rfl, by first | rfl | assumption | exact encV_len _ | exact Enc.len _ | exact len_ub (by assumption)⟩ | exact ⟨hs.ldM rfl rfl, by first | rfl | assumption | exact encV_len _ | exact Enc.len _ | exact len_ub (by assumption)⟩ | exact ⟨hs.ldM (by assumption) (by first | rfl | assumption), by first | rfl | assumption | exact encV_len _ | exact Enc.len _ | exact len_ub (by assumption)⟩ | exact ⟨by assumption, by first | rfl | assumption | exact encV_len _ | exact Enc.len _ | exact len_ub (by assumption)⟩ | exact hs.ldp | exact At.partC (by assumption))) ?_
              refine R.ev rfl (E.move rfl) ?_
              refine R.ev rfl (E.move rfl) ?_
              refine R.ev rfl (E.buildG (r := Hist.encH (⟨idq i, ((now : Nat) : Int), ((now : Nat) : Int), 0, false⟩ : Hist.HEnt)) rfl Tryz.underlying50 Tryz.zr50 Tryz.ql50 (by kernel_rfl) (by kernel_rfl) ⟨⟨_, rfl, by first | rfl | exact vsz _ | simp [Value.cells, *]⟩, ⟨_, rfl, by first | rfl | exact vsz _ | simp [Value.cells, *]⟩, ⟨_, rfl, by first | rfl | exact vsz _ | simp [Value.cells, *]⟩, trivial⟩ (by first | rfl | simp [setF, fieldsOf, Value.cells])) ?_
              refine R.call ⟨_, _, Tryz.func8, rfl, by kernel_rfl⟩ rfl rfl (Hist.add_any (⟨idq i, ((now : Nat) : Int), ((now : Nat) : Int), 0, false⟩ : Hist.HEnt) (hs.front (F := FH))) ?_
              have hhe : hent M i = ⟨idq i, ((now : Nat) : Int), ((now : Nat) : Int), 0, false⟩ := by rw [hent, hu0, hun]
              have hha := his_add (M := M) (c := 0) hnd (fun k hk => by have := hev.olt k hk; omega) (by omega) hno (by have := hm210 i; omega)
              rintro _ w30 ⟨rfl, F30, hw30, hs1⟩
              have hs := hs.back (F := FH) hs1
              rw [hhe] at hha
              rw [hha.1]
              rw [hha.2] at hw30
              refine R.ev rfl ((E.neq rfl rfl).isF (by decide)) ?_
              refine R.done ?_
              refine X.keep [(0, _), (2, _), (7, _), (9, _), (11, _), (12, _), (13, _), (14, _), (15, _), (16, _), (17, _), (19, _), (20, _), (21, _), (153, _)] ⟨rfl, rfl, rfl, rfl, rfl, rfl, rfl, rfl, rfl, rfl, rfl, rfl, rfl, rfl, rfl, trivial⟩ ?_
              refine X.next ?_
              refine C.cfalse rfl ?_
              refine C.skip ?_
              refine X.next ?_
              refine C.seq ?_
              refine C.region ?_
              refine R.ev rfl (E.load1 rfl Tryz.underlying26 rfl (by first | exact hs.ldc | exact hs.ld rfl | exact hs.ld (by assumption) | exact by assumption | exact At.cellC (by assumption) | exact hs.ldK rfl)) ?_
              refine R.ev rfl (E.loadRowC rfl Tryz.underlying47 rfl Tryz.sz47 (by first | exact ⟨hs.ldA, by first | rfl | assumption | exact encV_len _ | exact Enc.len _ | exact len_ub (by assumption)⟩ | exact ⟨hs.ldP rfl, by first | rfl | assumption | exact encV_len _ | exact Enc.len _ | exact len_ub (by assumption)⟩ | exact ⟨hs.ldM rfl rfl, by first | rfl | assumption | exact encV_len _ | exact Enc.len _ | exact len_ub (by assumption)⟩ | exact ⟨hs.ldM (by assumption) (by first | rfl | assumption), by first | rfl | assumption | exact encV_len _ | exact Enc.len _ | exact len_ub (by assumption)⟩ | exact ⟨by assumption, by first | rfl | assumption | exact encV_len _ | exact Enc.len _ | exact len_ub (by assumption)⟩ | exact hs.ldp | exact At.partC (by assumption))) ?_
              refine R.call ⟨_, _, Tryz.func9, rfl, by kernel_rfl⟩ rfl rfl (due_any (o := itm l M b72 i) (N := gNF l i) (hf := hfd) (hN := itm_ok hgr l M i) hs (by simp [gNF]) (by simp [gNF]) (by omega) (by show 0 ≤ ((M.getD i 0 : Nat) : Int) ∧ ((M.getD i 0 : Nat) : Int) ≤ 1000000; have := hm210 i; omega)) ?_
              rintro _ w32 ⟨rfl, hs⟩
              have hrs := rsn_itm l M b72 i
              refine R.ev rfl (E.move rfl) ?_
              refine R.ev rfl (E.extract rfl rfl) ?_
              refine R.ev rfl (E.extract rfl rfl) ?_
              refine R.ev rfl (E.assign rfl) ?_
              refine R.ev rfl (E.assign rfl) ?_
              refine R.done ?_
              refine X.keep [(0, _), (2, _), (7, _), (9, _), (11, _), (12, _), (13, _), (14, _), (15, _), (16, _), (17, _), (19, _), (20, _), (21, _), (22, _), (23, _)] ⟨rfl, rfl, rfl, rfl, rfl, rfl, rfl, rfl, rfl, rfl, rfl, rfl, rfl, rfl, rfl, rfl, trivial⟩ ?_
              refine X.next ?_
              refine C.seq ?_
              refine C.region ?_
              refine R.ev rfl (E.move rfl) ?_
              refine R.done ?_
              refine X.keep [(0, _), (2, _), (7, _), (9, _), (11, _), (12, _), (13, _), (14, _), (15, _), (16, _), (17, _), (19, _), (20, _), (21, _), (22, _), (160, _)] ⟨rfl, rfl, rfl, rfl, rfl, rfl, rfl, rfl, rfl, rfl, rfl, rfl, rfl, rfl, rfl, rfl, trivial⟩ ?_
              refine X.next ?_
              refine C.cdec rfl (fun h160 => ?_) (fun h160 => ?_)
              · have hpa : paF l i = true := hrs.1 h160
                have hdue : dueI (itm l M b72 i) (gNF l i) ((s0.toNat % 20 : Nat) : Int) = ((now + s0.toNat % 20 : Nat) : Int) := by rw [dueI, if_pos h160]; show ((M.getD i 0 : Nat) : Int) + _ = _; rw [hu0, hun]; push_cast; rfl
                refine C.region ?_
                refine R.ev rfl (E.move rfl) ?_
                first | refine R.ev rfl (E.fieldAddr0 0 rfl Tryz.underlying47 rfl Tryz.sz45 rfl) ?_ | refine R.ev rfl (E.fieldAddrN 0 rfl Tryz.underlying47 rfl Tryz.sz45 rfl) ?_
                refine R.ev rfl (E.loadRowC rfl Tryz.underlying45 rfl Tryz.sz45 (by first | exact ⟨hs.ldA, by first | rfl | assumption | exact encV_len _ | exact Enc.len _ | exact len_ub (by assumption)⟩ | exact ⟨hs.ldP rfl, by first | rfl | assumption | exact encV_len _ | exact Enc.len _ | exact len_ub (by assumption)⟩ | exact ⟨hs.ldM rfl rfl, by first | rfl | assumption | exact encV_len _ | exact Enc.len _ | exact len_ub (by assumption)⟩ | exact ⟨hs.ldM (by assumption) (by first | rfl | assumption), by first | rfl | assumption | exact encV_len _ | exact Enc.len _ | exact len_ub (by assumption)⟩ | exact ⟨by assumption, by first | rfl | assumption | exact encV_len _ | exact Enc.len _ | exact len_ub (by assumption)⟩ | exact hs.ldp | exact At.partC (by assumption))) ?_
                refine R.ev rfl (E.move rfl) ?_
                refine R.call ⟨_, _, Tryz.func10, rfl, by kernel_rfl⟩ rfl rfl (add_any (idq i) (dueI (itm l M b72 i) (gNF l i) ((s0.toNat % 20 : Nat) : Int)) (hs.front (F := FB)) (by omega)) ?_
                rintro _ w34 ⟨rfl, F34, hw34, hs1⟩
                have hs := hs.back (F := FB) hs1
                rw [hdue] at hw34
                refine R.done ?_
                refine X.keep [(0, _), (2, _), (7, _), (9, _), (11, _), (12, _), (13, _), (14, _), (15, _), (16, _), (17, _), (19, _), (20, _)] ⟨rfl, rfl, rfl, rfl, rfl, rfl, rfl, rfl, rfl, rfl, rfl, rfl, rfl, trivial⟩ ?_
                refine X.blockNormal ?_
                refine X.next ?_
                refine C.region ?_
                refine R.ev rfl (E.move rfl) ?_
                refine R.ev rfl (E.add rfl rfl (by omega) (by omega)) ?_
                refine R.ev rfl (E.assign rfl) ?_
                refine R.done ?_
                refine X.keep [(0, _), (2, _), (7, _), (9, _), (11, _), (12, _), (13, _), (14, _), (15, _), (16, _), (17, _), (19, _), (20, _)] ⟨rfl, rfl, rfl, rfl, rfl, rfl, rfl, rfl, rfl, rfl, rfl, rfl, rfl, trivial⟩ ?_
                have har2 : u = now → ∀ k, k < n → (k ∈ os ++ [i] ↔ M.getD k 0 < now ∨ (M.getD k 0 = now ∧ k < i + 1)) := fun hun k hk => by
                  rw [List.mem_append, har k hk, List.mem_singleton]
                  by_cases e : k = i
                  · subst e; rw [hu0]; omega
                  · omega
                have hnd2 : i ∉ os → (os ++ [i]).Nodup := fun hno => by rw [List.nodup_append]; exact ⟨hnd, by simp, fun x hx y hy e => by simp at hy; subst hy e; exact hno hx⟩
                have hpm : i ∉ os → putM (idq i) (itm l M b72 i) (itmM l M b72 os) = itmM l M b72 (os ++ [i]) := fun hno => put_map (itm l M b72) (fun k hk => by have := hev.olt k hk; omega) (by omega) hno
                have har3 : u ≠ now → ∀ k, k < n → (k ∈ os ↔ M.getD k 0 < now ∨ (M.getD k 0 = now ∧ k < i + 1)) := fun hne k hk => by
                  rw [har k hk]
                  by_cases e : k = i
                  · subst e; rw [hu0]; omega
                  · omega
                first
                  | (rw [hpm hno] at m29_4
                     exact X.again (i + 1, (_, F34), os ++ [i], (F30, F29_4)) ⟨rfl, rfl, rfl, rfl, rfl, rfl, rfl, rfl, rfl, rfl, rfl, rfl, rfl, trivial⟩ ⟨⟨by omega, hev.arrive hn30 (by omega) hno hpa (by unfold topN; have := hm210 i; omega) (by simp only [isMin, Bool.and_eq_true, decide_eq_true_eq]; omega), hnd2 hno, har2 hun, fun h => absurd h (by have := hm210 i; omega)⟩, hw34, hw30, m29_4, hs.to⟩ (by show _ - _ < _ - _; omega))
                  | (rw [hpm hno] at m29_4
                     exact X.again (i + 1, (s2, FB), os ++ [i], (F30, F29_4)) ⟨rfl, rfl, rfl, rfl, rfl, rfl, rfl, rfl, rfl, rfl, rfl, rfl, rfl, trivial⟩ ⟨⟨by omega, hev.skip (by omega) hpa, hnd2 hno, har2 hun, hsame⟩, hwb, hw30, m29_4, hs.to⟩ (by show _ - _ < _ - _; omega))
                  | exact X.again (i + 1, (s2, FB), os, (FH, FI)) ⟨rfl, rfl, rfl, rfl, rfl, rfl, rfl, rfl, rfl, rfl, rfl, rfl, rfl, trivial⟩ ⟨⟨by omega, hev, hnd, har3 (by omega), hsame⟩, hwb, hwh, mI, hs.to⟩ (by show _ - _ < _ - _; omega)
              · have hpa : paF l i = false := by cases hp : paF l i with | false => rfl | true => exact absurd (hrs.2 hp) h160
                refine C.skip ?_
                refine X.blockNormal ?_
                refine X.next ?_
                refine C.region ?_
                refine R.ev rfl (E.move rfl) ?_
                refine R.ev rfl (E.add rfl rfl (by omega) (by omega)) ?_
                refine R.ev rfl (E.assign rfl) ?_
                refine R.done ?_
                refine X.keep [(0, _), (2, _), (7, _), (9, _), (11, _), (12, _), (13, _), (14, _), (15, _), (16, _), (17, _), (19, _), (20, _)] ⟨rfl, rfl, rfl, rfl, rfl, rfl, rfl, rfl, rfl, rfl, rfl, rfl, rfl, trivial⟩ ?_
                have har2 : u = now → ∀ k, k < n → (k ∈ os ++ [i] ↔ M.getD k 0 < now ∨ (M.getD k 0 = now ∧ k < i + 1)) := fun hun k hk => by
                  rw [List.mem_append, har k hk, List.mem_singleton]
                  by_cases e : k = i
                  · subst e; rw [hu0]; omega
                  · omega
                have hnd2 : i ∉ os → (os ++ [i]).Nodup := fun hno => by rw [List.nodup_append]; exact ⟨hnd, by simp, fun x hx y hy e => by simp at hy; subst hy e; exact hno hx⟩
                have hpm : i ∉ os → putM (idq i) (itm l M b72 i) (itmM l M b72 os) = itmM l M b72 (os ++ [i]) := fun hno => put_map (itm l M b72) (fun k hk => by have := hev.olt k hk; omega) (by omega) hno
                have har3 : u ≠ now → ∀ k, k < n → (k ∈ os ↔ M.getD k 0 < now ∨ (M.getD k 0 = now ∧ k < i + 1)) := fun hne k hk => by
                  rw [har k hk]
                  by_cases e : k = i
                  · subst e; rw [hu0]; omega
                  · omega
                first
                  | (rw [hpm hno] at m29_4
                     exact X.again (i + 1, (_, F34), os ++ [i], (F30, F29_4)) ⟨rfl, rfl, rfl, rfl, rfl, rfl, rfl, rfl, rfl, rfl, rfl, rfl, rfl, trivial⟩ ⟨⟨by omega, hev.arrive hn30 (by omega) hno hpa (by unfold topN; have := hm210 i; omega) (by simp only [isMin, Bool.and_eq_true, decide_eq_true_eq]; omega), hnd2 hno, har2 hun, fun h => absurd h (by have := hm210 i; omega)⟩, hw34, hw30, m29_4, hs.to⟩ (by show _ - _ < _ - _; omega))
                  | (rw [hpm hno] at m29_4
                     exact X.again (i + 1, (s2, FB), os ++ [i], (F30, F29_4)) ⟨rfl, rfl, rfl, rfl, rfl, rfl, rfl, rfl, rfl, rfl, rfl, rfl, rfl, trivial⟩ ⟨⟨by omega, hev.skip (by omega) hpa, hnd2 hno, har2 hun, hsame⟩, hwb, hw30, m29_4, hs.to⟩ (by show _ - _ < _ - _; omega))
                  | exact X.again (i + 1, (s2, FB), os, (FH, FI)) ⟨rfl, rfl, rfl, rfl, rfl, rfl, rfl, rfl, rfl, rfl, rfl, rfl, rfl, trivial⟩ ⟨⟨by omega, hev, hnd, har3 (by omega), hsame⟩, hwb, hwh, mI, hs.to⟩ (by show _ - _ < _ - _; omega)
        · refine C.exit ?_
          refine X.thenExit ?_
          refine X.loopExit ?_
          refine X.blockExit ?_
          refine X.next ?_
          refine C.seq ?_
          refine C.seq ?_
          have hin : i = n := by omega
          have har : ∀ k, k < n → (k ∈ os ↔ M.getD k 0 < now + 1) := fun k hk => by rw [har k hk]; omega
          refine C.cut [(0, _), (2, _), (7, _), (9, _), (11, _), (12, _), (13, _), (14, _), (15, _), (16, _), (17, _), (19, _)] (fun (b35 : Bool) => [(174, .bool b35)]) (fun _ w2 => Sat K4 w2 (dfsP ds :: FB :: FH :: FI :: FA :: FT :: FM :: row b7 26 [ptr f] :: row b13 38 [v73] :: row b14 39 [v74] :: [])) ⟨rfl, rfl, rfl, rfl, rfl, rfl, rfl, rfl, rfl, rfl, rfl, rfl, trivial⟩ ?_ ?_
          · refine C.region ?_
            refine R.ev rfl (E.move rfl) ?_
            refine R.ev rfl (E.lss rfl rfl) ?_
            refine R.ev rfl (E.move rfl) ?_
            refine R.split 168 rfl (fun h168 => ?_) (fun h168 => ?_)
            · refine R.gyes rfl rfl ?_
              refine R.ev rfl (E.move rfl) ?_
              refine R.gyes rfl rfl ?_
              refine R.ev rfl (E.move rfl) ?_
              refine R.gyes rfl rfl ?_
              refine R.ev rfl (E.shr rfl rfl (by omega)) ?_
              refine R.gyes rfl rfl ?_
              refine R.ev rfl (E.and rfl rfl) ?_
              refine R.gyes rfl rfl ?_
              refine R.ev rfl (E.eql rfl rfl) ?_
              refine R.ev rfl (E.pickT rfl rfl) ?_
              refine R.done ?_
              refine X.keep [(0, _), (2, _), (7, _), (9, _), (11, _), (12, _), (13, _), (14, _), (15, _), (16, _), (17, _), (19, _), (174, _)] ⟨rfl, rfl, rfl, rfl, rfl, rfl, rfl, rfl, rfl, rfl, rfl, rfl, rfl, trivial⟩ ?_
              exact X.cut (_) ⟨lkV rfl rfl, rfl, rfl, rfl, rfl, rfl, rfl, rfl, rfl, rfl, rfl, rfl, rfl, trivial⟩ hs.to
            · refine R.gskip rfl rfl rfl ?_
              refine R.gskip rfl rfl rfl ?_
              refine R.gskip rfl rfl rfl ?_
              refine R.gskip rfl rfl rfl ?_
              refine R.gskip rfl rfl rfl ?_
              refine R.ev rfl (E.pickF rfl rfl) ?_
              refine R.done ?_
              refine X.keep [(0, _), (2, _), (7, _), (9, _), (11, _), (12, _), (13, _), (14, _), (15, _), (16, _), (17, _), (19, _), (174, _)] ⟨rfl, rfl, rfl, rfl, rfl, rfl, rfl, rfl, rfl, rfl, rfl, rfl, rfl, trivial⟩ ?_
              exact X.cut (_) ⟨lkV rfl rfl, rfl, rfl, rfl, rfl, rfl, rfl, rfl, rfl, rfl, rfl, rfl, rfl, trivial⟩ hs.to
          · rintro b35 w350 hs
            refine X.keep [(0, _), (2, _), (7, _), (9, _), (11, _), (12, _), (13, _), (14, _), (15, _), (16, _), (17, _), (19, _), (174, _)] ⟨rfl, rfl, rfl, rfl, rfl, rfl, rfl, rfl, rfl, rfl, rfl, rfl, rfl, trivial⟩ ?_
            refine X.next ?_
            refine C.cut [(0, _), (2, _), (7, _), (9, _), (11, _), (12, _), (13, _), (14, _), (15, _), (16, _), (17, _), (19, _)] (fun (F' : Hl) => []) (fun F' w2 => BkL pb s2 F' ∧ Sat K4 w2 (dfsP ds :: F' :: FH :: FI :: FA :: FT :: FM :: row b7 26 [ptr f] :: row b13 38 [v73] :: row b14 39 [v74] :: [])) ⟨rfl, rfl, rfl, rfl, rfl, rfl, rfl, rfl, rfl, rfl, rfl, rfl, trivial⟩ ?_ ?_
            · refine C.cbool rfl (fun h174 => ?_) (fun h174 => ?_)
              · refine C.region ?_
                refine R.ev rfl (E.move rfl) ?_
                refine R.call ⟨_, _, Tryz.func11, rfl, by kernel_rfl⟩ rfl rfl (drop_any (hs.front (F := FB))) ?_
                rintro _ w36 ⟨rfl, F36, hw36, hs1⟩
                have hs := hs.back (F := FB) hs1
                have e36 : ({ s2 with M := [] } : Bk) = s2 := by have := hev.m; cases s2; simp_all
                rw [e36] at hw36
                refine R.done ?_
                refine X.keep [(0, _), (2, _), (7, _), (9, _), (11, _), (12, _), (13, _), (14, _), (15, _), (16, _), (17, _), (19, _)] ⟨rfl, rfl, rfl, rfl, rfl, rfl, rfl, rfl, rfl, rfl, rfl, rfl, trivial⟩ ?_
                first
                  | exact X.cut (F36) ⟨rfl, rfl, rfl, rfl, rfl, rfl, rfl, rfl, rfl, rfl, rfl, rfl, trivial⟩ ⟨hw36, hs.to⟩
                  | exact X.cut (FB) ⟨rfl, rfl, rfl, rfl, rfl, rfl, rfl, rfl, rfl, rfl, rfl, rfl, trivial⟩ ⟨hwb, hs.to⟩
              · refine C.skip ?_
                first
                  | exact X.cut (F36) ⟨rfl, rfl, rfl, rfl, rfl, rfl, rfl, rfl, rfl, rfl, rfl, rfl, trivial⟩ ⟨hw36, hs.to⟩
                  | exact X.cut (FB) ⟨rfl, rfl, rfl, rfl, rfl, rfl, rfl, rfl, rfl, rfl, rfl, rfl, trivial⟩ ⟨hwb, hs.to⟩
            · rintro F35 w35 ⟨hw35, hs⟩
              refine X.keep [(0, _), (2, _), (7, _), (9, _), (11, _), (12, _), (13, _), (14, _), (15, _), (16, _), (17, _), (19, _)] ⟨rfl, rfl, rfl, rfl, rfl, rfl, rfl, rfl, rfl, rfl, rfl, rfl, trivial⟩ ?_
              refine X.next ?_
              refine C.seq ?_
              refine C.seq ?_
              refine C.region ?_
              refine R.ev rfl (E.move rfl) ?_
              refine R.call ⟨_, _, Tryz.func12, rfl, by kernel_rfl⟩ rfl rfl (missed_any hs) ?_
              rintro _ w37 ⟨rfl, hs⟩
              refine R.done ?_
              refine X.keep [(0, _), (2, _), (7, _), (9, _), (11, _), (12, _), (13, _), (14, _), (15, _), (16, _), (17, _), (19, _), (178, _)] ⟨rfl, rfl, rfl, rfl, rfl, rfl, rfl, rfl, rfl, rfl, rfl, rfl, rfl, trivial⟩ ?_
              refine X.next ?_
              refine C.cutD (fun (ds, _) => ds.map mkD) [(0, _), (2, _), (7, _), (9, _), (11, _), (12, _), (13, _), (14, _), (15, _), (16, _), (17, _), (19, _)] (fun ((ds, (s, FB)) : List Nat × (Bk × Hl)) => []) (fun (ds, (s3, F')) w2 => (EvQ n ((1 + s1.toNat % 6 : Nat) : Int) (laF l) (paF l) os (topN a now) s3 fs ∧ (∃ A, s3.L = s2.L ++ A ∧ ∀ e ∈ A, e.due = now) ∧ (s3.inc = true → ((1 + s1.toNat % 6 : Nat) : Int) ≤ s3.L.length) ∧ (s3.inc = true → s2.inc = true)) ∧ BkL pb s3 F' ∧ Sat K4 w2 (dfsP ds :: F' :: FH :: FI :: FA :: FT :: FM :: row b7 26 [ptr f] :: row b13 38 [v73] :: row b14 39 [v74] :: [])) ⟨rfl, rfl, rfl, rfl, rfl, rfl, rfl, rfl, rfl, rfl, rfl, rfl, trivial⟩ ?_ ?_
              · refine C.cbool rfl (fun h178 => ?_) (fun h178 => ?_)
                · refine C.seq ?_
                  refine C.region ?_
                  refine R.salloc1 hs Tryz.zr55 rfl rfl ?_
                  intro b24 w24 hs
                  refine R.done ?_
                  refine X.keep [(0, _), (2, _), (7, _), (9, _), (11, _), (12, _), (13, _), (14, _), (15, _), (16, _), (17, _), (19, _), (24, _)] ⟨rfl, rfl, rfl, rfl, rfl, rfl, rfl, rfl, rfl, rfl, rfl, rfl, rfl, trivial⟩ ?_
                  refine X.next ?_
                  refine C.seq ?_
                  refine C.seq ?_
                  refine C.region ?_
                  refine R.ev rfl (E.move rfl) ?_
                  refine R.call ⟨_, _, Tryz.func13, rfl, by kernel_rfl⟩ rfl rfl (Hist.all_any (ptr ph) rfl hs) ?_
                  rintro _ w39 ⟨b39, rfl, hs⟩
                  obtain ⟨Lx, hox⟩ := ord_ex (his_ok (M := M) (c := 0) hnd (fun k hk => by have := hev.olt k hk; omega))
                  have hlx : Lx.length ≤ 30 := by have := hox.len; rw [this]; show (os.map _).length ≤ _; rw [List.length_map]; have := os_len hnd hev.olt; omega
                  refine R.done ?_
                  refine X.keep [(0, _), (2, _), (7, _), (9, _), (11, _), (12, _), (13, _), (14, _), (15, _), (16, _), (17, _), (19, _), (24, _), (180, _)] ⟨rfl, rfl, rfl, rfl, rfl, rfl, rfl, rfl, rfl, rfl, rfl, rfl, rfl, rfl, trivial⟩ ?_
                  refine X.next ?_
                  refine C.block ?_
                  refine C.rangeL (σ := List (Vec 32)) (fun r G => ∃ v F1, G = row b24 55 [v] ++ (row b7 26 [ptr f] ++ (row b13 38 [v73] ++ (row b14 39 [v74] ++ (FI ++ (FA ++ F1))))) ∧ RowL 45 encV 32 v r F1) (restS l fs) (fun _ => none) ([]) rfl rfl ⟨_, _, Tryz.func33, rfl, by kernel_rfl⟩ rfl (Hist.all1_iter (Hs := (row b24 55 [.slice none 0 0] ++ (row b7 26 [ptr f] ++ (row b13 38 [v73] ++ (row b14 39 [v74] ++ (FI ++ (FA ++ [])))))) :: row b39 36 [ptr ph] :: FH :: dfsP ds :: F35 :: FT :: FM :: []) hox inferInstance inferInstance) ((Sat.to (Hs := row b24 55 [.slice none 0 0] :: row b7 26 [ptr f] :: row b13 38 [v73] :: row b14 39 [v74] :: FI :: FA :: [] :: row b39 36 [ptr ph] :: FH :: dfsP ds :: F35 :: FT :: FM :: []) hs.nil).perm (by simp [List.append_assoc])) (⟨_, [], rfl, RowL.nil _ _ _⟩) rfl ?_ ?_
                  · rintro lp c r G1 R1 pre x post w40 hx hr _ ⟨v, F1, rfl, r1⟩ hs
                    have hrl : r.length ≤ 30 := by
                      rw [hr]
                      have h1 := rest_le l fs pre
                      rw [hx] at hlx; simp at hlx; omega
                    obtain ⟨i2, hi2, hxe⟩ : ∃ i2, i2 ∈ os ∧ x = hent M i2 := by
                      have hxm : x ∈ (hisM M os).map (·.2) := (hox.mem x).1 (by rw [hx]; simp)
                      obtain ⟨q, hq, hqx⟩ := List.mem_map.1 hxm
                      obtain ⟨i2, hi2, hq2⟩ := List.mem_map.1 hq
                      exact ⟨i2, hi2, by rw [← hqx, ← hq2]⟩
                    have hxid : x.id = idq i2 := by rw [hxe]; rfl
                    have hi2n := hev.olt i2 hi2
                    have hlI : lkM (itmM l M b72 os) (idq i2) = some (itm l M b72 i2) := lk_map (itm l M b72) hnd (fun k hk => by have := hev.olt k hk; omega) hi2
                    have hlA := hmp.a i2 hi2n
                    have hs : Sat K4 w40 (lpP lp c .ready none :: row b24 55 [v] :: row b7 26 [ptr f] :: row b13 38 [v73] :: row b14 39 [v74] :: FI :: FA :: F1 :: R1) := hs.perm (by simp [List.append_assoc])
                    obtain ⟨ad1, cap1, rfl, _⟩ := r1.val
                    have hrs := rsn_itm l M b72 i2
                    refine C.keep [(0, _), (2, _), (7, _), (9, _), (11, _), (12, _), (13, _), (14, _), (15, _), (16, _), (17, _), (19, _), (24, _), (181, _)] ⟨rfl, rfl, rfl, rfl, rfl, rfl, rfl, rfl, rfl, rfl, rfl, rfl, rfl, rfl, trivial⟩ ?_
                    refine C.region ?_
                    refine R.sallocA hs Tryz.zr50 rfl ?_
                    intro b25 w25 hs
                    first | refine R.cstoreAll hs rfl rfl Tryz.sz50 (by first | rfl | assumption | exact encV_len _ | exact Enc.len _ | exact len_ub (by assumption) | simp [*]) (by first | rfl | assumption | exact encV_len _ | exact Enc.len _ | exact len_ub (by assumption) | simp [*]) (by first | assumption | exact OneL.all | exact Enc.one _ | exact ub_all _ | (repeat' (first | refine List.forall_mem_cons.2 ⟨?_, ?_⟩ | exact List.forall_mem_nil _ | rfl | exact OneC.one | exact KRow.oneC' (by assumption)))) ?_ | refine R.cstore hs rfl rfl Tryz.sz50 (by first | rfl | assumption | exact encV_len _ | exact Enc.len _ | exact len_ub (by assumption) | simp [*]) (by simp [*]) (by first | assumption | exact OneL.all | exact Enc.one _ | exact ub_all _ | (repeat' (first | refine List.forall_mem_cons.2 ⟨?_, ?_⟩ | exact List.forall_mem_nil _ | rfl | exact OneC.one | exact KRow.oneC' (by assumption)))) ?_
                    intro w40_1 hs
                    try simp only [List.set_cons_zero, List.set_cons_succ] at hs
                    refine R.done ?_
                    refine X.keep [(0, _), (2, _), (7, _), (9, _), (11, _), (12, _), (13, _), (14, _), (15, _), (16, _), (17, _), (19, _), (24, _), (25, _), (181, _)] ⟨rfl, rfl, rfl, rfl, rfl, rfl, rfl, rfl, rfl, rfl, rfl, rfl, rfl, rfl, rfl, trivial⟩ ?_
                    refine X.begin_ (c := c) (pd := none) hs ?_
                    intro wb0 hs
                    refine C.keep [(0, _), (2, _), (7, _), (9, _), (11, _), (12, _), (13, _), (14, _), (15, _), (16, _), (17, _), (19, _), (24, _), (25, _), (181, _)] ⟨rfl, rfl, rfl, rfl, rfl, rfl, rfl, rfl, rfl, rfl, rfl, rfl, rfl, rfl, rfl, trivial⟩ ?_
                    refine C.block ?_
                    refine C.seq ?_
                    refine C.drawn (SatS hs) ([0, 1, 3, 4, 8, 10, 11], [2, 6, 7, 9, 12, 13]) (by kernel_rfl) ?_
                    have hs := hs.drew
                    first | refine D.evP 2 rfl (by kernel_rfl) rfl (fun _ => hs.to) (fun _ => E.fieldAddr0 0 rfl Tryz.underlying50 rfl Tryz.sz45 rfl) ?_ | refine D.evP 2 rfl (by kernel_rfl) rfl (fun _ => hs.to) (fun _ => E.fieldAddrN 0 rfl Tryz.underlying50 rfl Tryz.sz45 rfl) ?_
                    refine D.ev 0 rfl (by kernel_rfl) rfl hs.to (fun _ hS => E.load1 rfl Tryz.underlying26 rfl (by first | exact hS.ldc | exact hS.ld rfl | exact hS.ld (by assumption) | exact by assumption | exact At.cellC (by assumption) | exact hS.ldK rfl | exact At.cellC ((by assumption : ∀ w', Sat _ w' _ → At w' _ _ _) _ hS) | exact (by assumption : ∀ w', Sat _ w' _ → World.cell? w' _ = some _) _ hS)) ?_
                    refine D.ev 1 rfl (by kernel_rfl) rfl hs.to (fun _ hS => E.load1 rfl Tryz.underlying38 rfl (by first | exact hS.ldc | exact hS.ld rfl | exact hS.ld (by assumption) | exact by assumption | exact At.cellC (by assumption) | exact hS.ldK rfl | exact At.cellC ((by assumption : ∀ w', Sat _ w' _ → At w' _ _ _) _ hS) | exact (by assumption : ∀ w', Sat _ w' _ → World.cell? w' _ = some _) _ hS)) ?_
                    refine D.ev 3 rfl (by kernel_rfl) rfl hs.to (fun _ hS => E.loadRowC rfl Tryz.underlying45 rfl Tryz.sz45 (by first | exact ⟨hS.ldA, by first | rfl | assumption | exact encV_len _ | exact Enc.len _ | exact len_ub (by assumption)⟩ | exact ⟨hS.ldP rfl, by first | rfl | assumption | exact encV_len _ | exact Enc.len _ | exact len_ub (by assumption)⟩ | exact ⟨hS.ldM rfl rfl, by first | rfl | assumption | exact encV_len _ | exact Enc.len _ | exact len_ub (by assumption)⟩ | exact ⟨hS.ldM (by assumption) (by first | rfl | assumption), by first | rfl | assumption | exact encV_len _ | exact Enc.len _ | exact len_ub (by assumption)⟩ | exact ⟨by assumption, by first | rfl | assumption | exact encV_len _ | exact Enc.len _ | exact len_ub (by assumption)⟩ | exact ⟨(by assumption : ∀ w', Sat _ w' _ → At w' _ _ _) _ hS, by first | rfl | assumption | exact encV_len _ | exact Enc.len _ | exact len_ub (by assumption)⟩ | exact hS.ldp | exact At.partC (by assumption) | exact At.partC ((by assumption : ∀ w', Sat _ w' _ → At w' _ _ _) _ hS))) ?_
                    refine D.ev 4 rfl (by kernel_rfl) rfl hs.to (fun _ hS => (E.lookupD hS rfl rfl Tryz.underlying38 x.id (by rfl)).as (u := evIt (itm l M b72 i2)) (by rw [hxid, hlI]; rfl)) ?_
                    refine D.act 5 rfl (by kernel_rfl) ?_
                    refine R.call ⟨_, _, Tryz.func14, rfl, by kernel_rfl⟩ rfl rfl (reason_any (o := itm l M b72 i2) (N := gNF l i2) (hf := hfd) (hN := itm_ok hgr l M i2) hs (by simp [gNF]) (by simp [gNF])) ?_
                    rintro _ w41 ⟨rfl, hs⟩
                    refine D.back hs.to ?_
                    refine D.evP 6 rfl (by kernel_rfl) rfl (fun _ => hs.to) (fun _ => E.eql rfl rfl) ?_
                    refine D.evP 7 rfl (by kernel_rfl) rfl (fun _ => hs.to) (fun _ => E.move rfl) ?_
                    refine D.split 189 rfl (fun h189 => ?_) (fun h189 => ?_)
                    · first | refine D.evPG 9 rfl (by kernel_rfl) rfl rfl rfl (fun _ => hs.to) (fun _ => E.fieldAddr0 0 rfl Tryz.underlying50 rfl Tryz.sz45 rfl) ?_ | refine D.evPG 9 rfl (by kernel_rfl) rfl rfl rfl (fun _ => hs.to) (fun _ => E.fieldAddrN 0 rfl Tryz.underlying50 rfl Tryz.sz45 rfl) ?_
                      refine D.evG 8 rfl (by kernel_rfl) rfl rfl rfl hs.to (fun _ hS => E.load1 rfl Tryz.underlying39 rfl (by first | exact hS.ldc | exact hS.ld rfl | exact hS.ld (by assumption) | exact by assumption | exact At.cellC (by assumption) | exact hS.ldK rfl | exact At.cellC ((by assumption : ∀ w', Sat _ w' _ → At w' _ _ _) _ hS) | exact (by assumption : ∀ w', Sat _ w' _ → World.cell? w' _ = some _) _ hS)) ?_
                      refine D.evG 10 rfl (by kernel_rfl) rfl rfl rfl hs.to (fun _ hS => E.loadRowC rfl Tryz.underlying45 rfl Tryz.sz45 (by first | exact ⟨hS.ldA, by first | rfl | assumption | exact encV_len _ | exact Enc.len _ | exact len_ub (by assumption)⟩ | exact ⟨hS.ldP rfl, by first | rfl | assumption | exact encV_len _ | exact Enc.len _ | exact len_ub (by assumption)⟩ | exact ⟨hS.ldM rfl rfl, by first | rfl | assumption | exact encV_len _ | exact Enc.len _ | exact len_ub (by assumption)⟩ | exact ⟨hS.ldM (by assumption) (by first | rfl | assumption), by first | rfl | assumption | exact encV_len _ | exact Enc.len _ | exact len_ub (by assumption)⟩ | exact ⟨by assumption, by first | rfl | assumption | exact encV_len _ | exact Enc.len _ | exact len_ub (by assumption)⟩ | exact ⟨(by assumption : ∀ w', Sat _ w' _ → At w' _ _ _) _ hS, by first | rfl | assumption | exact encV_len _ | exact Enc.len _ | exact len_ub (by assumption)⟩ | exact hS.ldp | exact At.partC (by assumption) | exact At.partC ((by assumption : ∀ w', Sat _ w' _ → At w' _ _ _) _ hS))) ?_
                      refine D.evG 11 rfl (by kernel_rfl) rfl rfl rfl hs.to (fun _ hS => (E.lookupD hS rfl rfl Tryz.underlying39 x.id (by rfl)).as (u := .bool (decide (fs.getD i2 0 = 1 + laF l i2))) (by rw [hxid, hlA])) ?_
                      refine D.evPG 12 rfl (by kernel_rfl) rfl rfl rfl (fun _ => hs.to) (fun _ => E.not rfl) ?_
                      refine D.evP 13 rfl (by kernel_rfl) rfl (fun _ => hs.to) (fun _ => E.pickT rfl rfl) ?_
                      refine D.done rfl (by kernel_rfl) ?_
                      refine X.keep [(0, _), (2, _), (7, _), (9, _), (11, _), (12, _), (13, _), (14, _), (15, _), (16, _), (17, _), (19, _), (24, _), (25, _), (181, _), (195, _)] ⟨rfl, rfl, rfl, rfl, rfl, rfl, rfl, rfl, rfl, rfl, rfl, rfl, rfl, rfl, rfl, rfl, trivial⟩ ?_
                      refine X.next ?_
                      refine C.cbool rfl (fun h195 => ?_) (fun h195 => ?_)
                      · refine C.region ?_
                        refine R.ev rfl (E.load1 rfl Tryz.underlying55 rfl (by first | exact hs.ldc | exact hs.ld rfl | exact hs.ld (by assumption) | exact by assumption | exact At.cellC (by assumption) | exact hs.ldK rfl)) ?_
                        first | refine R.ev rfl (E.fieldAddr0 0 rfl Tryz.underlying50 rfl Tryz.sz45 rfl) ?_ | refine R.ev rfl (E.fieldAddrN 0 rfl Tryz.underlying50 rfl Tryz.sz45 rfl) ?_
                        refine R.ev rfl (E.loadRowC rfl Tryz.underlying45 rfl Tryz.sz45 (by first | exact ⟨hs.ldA, by first | rfl | assumption | exact encV_len _ | exact Enc.len _ | exact len_ub (by assumption)⟩ | exact ⟨hs.ldP rfl, by first | rfl | assumption | exact encV_len _ | exact Enc.len _ | exact len_ub (by assumption)⟩ | exact ⟨hs.ldM rfl rfl, by first | rfl | assumption | exact encV_len _ | exact Enc.len _ | exact len_ub (by assumption)⟩ | exact ⟨hs.ldM (by assumption) (by first | rfl | assumption), by first | rfl | assumption | exact encV_len _ | exact Enc.len _ | exact len_ub (by assumption)⟩ | exact ⟨by assumption, by first | rfl | assumption | exact encV_len _ | exact Enc.len _ | exact len_ub (by assumption)⟩ | exact hs.ldp | exact At.partC (by assumption))) ?_
                        refine R.buildSliceA rfl Tryz.underlying55 Tryz.sz45 Tryz.zr45 rfl (by first | rfl | assumption | exact encV_len _ | exact Enc.len _ | simp [*]) (by decide) (by decide) ?_
                        intro b199 w199 n199
                        have hs := hs.new n199
                        refine R.capp1 (x.id) hs rfl rfl Tryz.underlying55 Tryz.by45 (by rfl) rfl (by first | exact hs.ldA | exact hs.ldP rfl | exact by assumption) (by decide) (by first | omega | (simp only [List.length_append, List.length_cons, List.length_nil] at *; omega)) (by first | omega | (simp only [List.length_append, List.length_cons, List.length_nil] at *; omega)) ?_
                        intro v200 w200 F200 r200 hs
                        refine R.cstore1 hs rfl rfl Tryz.sz55 (by first | decide | simp [*]) (by first | rfl | exact OneC.one | exact KRow.oneC' (by assumption)) ?_
                        intro w42_5 hs
                        try simp only [List.set_cons_zero, List.set_cons_succ] at hs
                        refine R.done ?_
                        refine X.keep [(0, _), (2, _), (7, _), (9, _), (11, _), (12, _), (13, _), (14, _), (15, _), (16, _), (17, _), (19, _), (24, _), (25, _), (181, _)] ⟨rfl, rfl, rfl, rfl, rfl, rfl, rfl, rfl, rfl, rfl, rfl, rfl, rfl, rfl, rfl, trivial⟩ ?_
                        refine X.blockNormal ?_
                        refine X.rndEnd (c := c) (st := .busy) (pd := none) hs ?_
                        intro we0 hs
                        have hxk : kkF x = i2 := by rw [hxe]; exact kk_hent (by omega)
                        first
                          | (have hst : restS l fs r x = r ++ [x.id] := by rw [restS, if_pos (by rw [keepF, hxk, Bool.and_eq_true]; exact ⟨hrs.1 (of_decide_eq_true h189), h195⟩)]
                             rw [hst]
                             exact ⟨rfl, _, ⟨v200, F200, rfl, r200⟩, show Sat K4 _ (lpP lp c .ready none :: _ :: R1) from hs.to⟩)
                          | (have hst : restS l fs r x = r := by rw [restS, if_neg (by rw [keepF, hxk, h195, Bool.and_false]; decide)]
                             rw [hst]
                             exact ⟨rfl, _, ⟨_, F1, rfl, r1⟩, show Sat K4 _ (lpP lp c .ready none :: _ :: R1) from hs.to⟩)
                          | (have hst : restS l fs r x = r := by rw [restS, if_neg (by rw [keepF, hxk]; intro h; rw [Bool.and_eq_true] at h; exact of_decide_eq_false h189 (hrs.2 h.1))]
                             rw [hst]
                             exact ⟨rfl, _, ⟨_, F1, rfl, r1⟩, show Sat K4 _ (lpP lp c .ready none :: _ :: R1) from hs.to⟩)
                      · refine C.skip ?_
                        refine X.blockNormal ?_
                        refine X.rndEnd (c := c) (st := .busy) (pd := none) hs ?_
                        intro we0 hs
                        have hxk : kkF x = i2 := by rw [hxe]; exact kk_hent (by omega)
                        first
                          | (have hst : restS l fs r x = r ++ [x.id] := by rw [restS, if_pos (by rw [keepF, hxk, Bool.and_eq_true]; exact ⟨hrs.1 (of_decide_eq_true h189), h195⟩)]
                             rw [hst]
                             exact ⟨rfl, _, ⟨v200, F200, rfl, r200⟩, show Sat K4 _ (lpP lp c .ready none :: _ :: R1) from hs.to⟩)
                          | (have hst : restS l fs r x = r := by rw [restS, if_neg (by rw [keepF, hxk, h195, Bool.and_false]; decide)]
                             rw [hst]
                             exact ⟨rfl, _, ⟨_, F1, rfl, r1⟩, show Sat K4 _ (lpP lp c .ready none :: _ :: R1) from hs.to⟩)
                          | (have hst : restS l fs r x = r := by rw [restS, if_neg (by rw [keepF, hxk]; intro h; rw [Bool.and_eq_true] at h; exact of_decide_eq_false h189 (hrs.2 h.1))]
                             rw [hst]
                             exact ⟨rfl, _, ⟨_, F1, rfl, r1⟩, show Sat K4 _ (lpP lp c .ready none :: _ :: R1) from hs.to⟩)
                    · refine D.skipP 9 rfl (by kernel_rfl) rfl rfl rfl (fun _ => hs.to) ?_
                      refine D.skip 8 rfl (by kernel_rfl) rfl rfl rfl hs.to ?_
                      refine D.skip 10 rfl (by kernel_rfl) rfl rfl rfl hs.to ?_
                      refine D.skip 11 rfl (by kernel_rfl) rfl rfl rfl hs.to ?_
                      refine D.skipP 12 rfl (by kernel_rfl) rfl rfl rfl (fun _ => hs.to) ?_
                      refine D.evP 13 rfl (by kernel_rfl) rfl (fun _ => hs.to) (fun _ => E.pickF rfl rfl) ?_
                      refine D.done rfl (by kernel_rfl) ?_
                      refine X.keep [(0, _), (2, _), (7, _), (9, _), (11, _), (12, _), (13, _), (14, _), (15, _), (16, _), (17, _), (19, _), (24, _), (25, _), (181, _), (195, _)] ⟨rfl, rfl, rfl, rfl, rfl, rfl, rfl, rfl, rfl, rfl, rfl, rfl, rfl, rfl, rfl, rfl, trivial⟩ ?_
                      refine X.next ?_
                      refine C.cfalse rfl ?_
                      refine C.skip ?_
                      refine X.blockNormal ?_
                      refine X.rndEnd (c := c) (st := .busy) (pd := none) hs ?_
                      intro we0 hs
                      have hxk : kkF x = i2 := by rw [hxe]; exact kk_hent (by omega)
                      first
                        | (have hst : restS l fs r x = r ++ [x.id] := by rw [restS, if_pos (by rw [keepF, hxk, Bool.and_eq_true]; exact ⟨hrs.1 (of_decide_eq_true h189), h195⟩)]
                           rw [hst]
                           exact ⟨rfl, _, ⟨v200, F200, rfl, r200⟩, show Sat K4 _ (lpP lp c .ready none :: _ :: R1) from hs.to⟩)
                        | (have hst : restS l fs r x = r := by rw [restS, if_neg (by rw [keepF, hxk, h195, Bool.and_false]; decide)]
                           rw [hst]
                           exact ⟨rfl, _, ⟨_, F1, rfl, r1⟩, show Sat K4 _ (lpP lp c .ready none :: _ :: R1) from hs.to⟩)
                        | (have hst : restS l fs r x = r := by rw [restS, if_neg (by rw [keepF, hxk]; intro h; rw [Bool.and_eq_true] at h; exact of_decide_eq_false h189 (hrs.2 h.1))]
                           rw [hst]
                           exact ⟨rfl, _, ⟨_, F1, rfl, r1⟩, show Sat K4 _ (lpP lp c .ready none :: _ :: R1) from hs.to⟩)
                  · rintro D0 G2 w43 hb2 hs
                    rw [runO_all (fun _ _ => rfl)] at hb2
                    have hrm := rest_mem (l := l) (fs := fs) hox (fun k hk => by rw [hev.len]; exact hev.olt k hk) (by rw [hev.len]; exact hn30)
                    have hrl := rest_le l fs Lx
                    generalize hR : Lx.foldl (restS l fs) [] = R43 at hb2 hrm hrl
                    obtain ⟨v43, F43, rfl, r43⟩ := hb2
                    show X _ .normal _ _ _
                    obtain ⟨ad43, cap43, rfl, _⟩ := r43.val
                    have hs : Sat K4 w43 (row b24 55 [.slice ad43 R43.length cap43] :: row b7 26 [ptr f] :: row b13 38 [v73] :: row b14 39 [v74] :: FI :: FA :: F43 :: dfP D0 (some []) :: row b39 36 [ptr ph] :: FH :: dfsP ds :: F35 :: FT :: FM :: []) := hs.perm (by simp [List.append_assoc])
                    refine X.keep [(0, _), (2, _), (7, _), (9, _), (11, _), (12, _), (13, _), (14, _), (15, _), (16, _), (17, _), (19, _), (24, _)] ⟨rfl, rfl, rfl, rfl, rfl, rfl, rfl, rfl, rfl, rfl, rfl, rfl, rfl, trivial⟩ ?_
                    refine X.blockNormal ?_
                    refine X.next ?_
                    refine C.region ?_
                    refine R.ev rfl (E.move rfl) ?_
                    refine R.ev rfl (E.load1 rfl Tryz.underlying55 rfl (by first | exact hs.ldc | exact hs.ld rfl | exact hs.ld (by assumption) | exact by assumption | exact At.cellC (by assumption) | exact hs.ldK rfl)) ?_
                    refine R.call ⟨_, _, Tryz.func16, rfl, by kernel_rfl⟩ rfl rfl (values_any ad43 R43.length cap43 hs) ?_
                    rintro _ w81 ⟨b81, rfl, hs⟩
                    refine R.ev rfl (E.move rfl) ?_
                    refine R.ev rfl ((E.max2 rfl rfl).isI (c := ((now : Nat) : Int)) (by omega)) ?_
                    refine R.call ⟨_, _, Tryz.func15, rfl, by kernel_rfl⟩ rfl rfl (scan_any (L := R43) (now := ((now : Nat) : Int)) (hs.front (F := F35)) (by omega) (by rw [hev.cap]; omega) (by omega)) ?_
                    rintro _ w83 ⟨rfl, F83, hw83, hs1⟩
                    have hs := hs.back (F := F35) hs1
                    refine R.done ?_
                    refine X.keep [(0, _), (2, _), (7, _), (9, _), (11, _), (12, _), (13, _), (14, _), (15, _), (16, _), (17, _), (19, _)] ⟨rfl, rfl, rfl, rfl, rfl, rfl, rfl, rfl, rfl, rfl, rfl, rfl, trivial⟩ ?_
                    first
                      | (have hsc := hev.scan hn30 (now := ((now : Nat) : Int)) (by simp only [isMin, Bool.and_eq_true, decide_eq_true_eq]; omega) (by unfold topN; omega) hrm hmp.x
                         exact X.cutD ((D0 :: ds, (_, F83))) rfl ⟨rfl, rfl, rfl, rfl, rfl, rfl, rfl, rfl, rfl, rfl, rfl, rfl, trivial⟩ ⟨⟨hsc.1, hsc.2.2, hsc.2.1, fun _ => h178⟩, hw83, (hs.to : Sat K4 _ ((dfP D0 (some []) ++ dfsP ds) :: F83 :: FH :: FI :: FA :: FT :: FM :: row b7 26 [ptr f] :: row b13 38 [v73] :: row b14 39 [v74] :: []))⟩)
                      | exact X.cutD ((ds, (s2, F35))) rfl ⟨rfl, rfl, rfl, rfl, rfl, rfl, rfl, rfl, rfl, rfl, rfl, rfl, trivial⟩ ⟨⟨hev, ⟨[], by simp, by simp⟩, fun h => absurd (h.symm.trans h178) (by decide), id⟩, hw35, hs.to⟩
                · refine C.skip ?_
                  first
                    | (have hsc := hev.scan hn30 (now := ((now : Nat) : Int)) (by simp only [isMin, Bool.and_eq_true, decide_eq_true_eq]; omega) (by unfold topN; omega) hrm hmp.x
                       exact X.cutD ((D0 :: ds, (_, F83))) rfl ⟨rfl, rfl, rfl, rfl, rfl, rfl, rfl, rfl, rfl, rfl, rfl, rfl, trivial⟩ ⟨⟨hsc.1, hsc.2.2, hsc.2.1, fun _ => h178⟩, hw83, (hs.to : Sat K4 _ ((dfP D0 (some []) ++ dfsP ds) :: F83 :: FH :: FI :: FA :: FT :: FM :: row b7 26 [ptr f] :: row b13 38 [v73] :: row b14 39 [v74] :: []))⟩)
                    | exact X.cutD ((ds, (s2, F35))) rfl ⟨rfl, rfl, rfl, rfl, rfl, rfl, rfl, rfl, rfl, rfl, rfl, rfl, trivial⟩ ⟨⟨hev, ⟨[], by simp, by simp⟩, fun h => absurd (h.symm.trans h178) (by decide), id⟩, hw35, hs.to⟩
              · rintro ⟨ds, ⟨s3, F44⟩⟩ w44 ⟨⟨hev3, ⟨A, hLA, hA⟩, hfu, hinc⟩, hw44, hs⟩
                refine X.keep [(0, _), (2, _), (7, _), (9, _), (11, _), (12, _), (13, _), (14, _), (15, _), (16, _), (17, _), (19, _)] ⟨rfl, rfl, rfl, rfl, rfl, rfl, rfl, rfl, rfl, rfl, rfl, rfl, trivial⟩ ?_
                refine X.next ?_
                refine C.seq ?_
                refine C.region ?_
                refine R.ev rfl (E.move rfl) ?_
                refine R.ev rfl (E.move rfl) ?_
                refine R.call ⟨_, _, Tryz.func17, rfl, by kernel_rfl⟩ rfl rfl (next_any now 1 hs (by have := hev3.b.le; rw [hev3.cap] at this; omega)) ?_
                rintro v44 w44 ⟨F44b, r44, hs⟩
                have hno := nxt_none (s := s3) (now := now) hev3.m
                have hsub : ∀ a ∈ nxtL s3 now 1 s3.L, a ∈ s3.L.map Ent.id := fun a ha => (nxtL_sub _ _ _).subset ha
                generalize nxtL s3 now 1 s3.L = ln at r44 hsub hno
                obtain ⟨ad44, cap44, rfl, _⟩ := r44.val
                refine R.ev rfl (E.assign rfl) ?_
                refine R.done ?_
                refine X.keep [(0, _), (2, _), (7, _), (9, _), (11, _), (12, _), (13, _), (14, _), (15, _), (16, _), (17, _), (19, _), (26, _)] ⟨rfl, rfl, rfl, rfl, rfl, rfl, rfl, rfl, rfl, rfl, rfl, rfl, rfl, trivial⟩ ?_
                refine X.next ?_
                refine C.seq ?_
                refine C.seq ?_
                refine C.region ?_
                refine R.ev rfl (E.move rfl) ?_
                refine R.ev rfl (E.lenSl rfl Tryz.underlying55) ?_
                refine R.ev rfl (E.eql rfl rfl) ?_
                refine R.done ?_
                refine X.keep [(0, _), (2, _), (7, _), (9, _), (11, _), (12, _), (13, _), (14, _), (15, _), (16, _), (17, _), (19, _), (26, _), (212, _)] ⟨rfl, rfl, rfl, rfl, rfl, rfl, rfl, rfl, rfl, rfl, rfl, rfl, rfl, rfl, trivial⟩ ?_
                refine X.next ?_
                refine C.cdec rfl (fun h212 => ?_) (fun h212 => ?_)
                · refine C.exit ?_
                  refine X.thenExit ?_
                  refine X.blockExit ?_
                  refine X.next ?_
                  refine C.region ?_
                  refine R.ev rfl (E.move rfl) ?_
                  refine R.ev rfl (E.add rfl rfl (by omega) (by omega)) ?_
                  refine R.ev rfl (E.assign rfl) ?_
                  refine R.done ?_
                  refine X.keep [(0, _), (2, _), (7, _), (9, _), (11, _), (12, _), (13, _), (14, _), (15, _), (16, _), (17, _), (19, _)] ⟨rfl, rfl, rfl, rfl, rfl, rfl, rfl, rfl, rfl, rfl, rfl, rfl, trivial⟩ ?_
                  have hall : T0 a ≤ now → ∀ k, k < n → k ∈ os := fun hT k hk => (har k hk).2 (by have := hm210 k; unfold T0 at hT; omega)
                  have hss : T0 a ≤ now → s2 = s := fun hT => hsame (by unfold T0 at hT; omega)
                  have htop : topN a now ≤ topN a (now + 1) := by unfold topN; omega
                  have htop5 : T0 a ≤ now → topN a (now + 1) ≤ ((now : Nat) : Int) + 5 := fun hT => by unfold topN; unfold T0 at hT; omega
                  first
                    | exact X.againD (now + 1, ds, (_, F54), (os, fs.set k (u + 1)), (FH, FI), (AM, FA), (_, F526)) rfl ⟨rfl, rfl, rfl, rfl, rfl, rfl, rfl, rfl, rfl, rfl, rfl, rfl, trivial⟩ ⟨⟨by omega, hlt.2.1, hmp2, hnd, har, psi_next hn30 hps hlt.2.1 fun hT => by rw [← hss hT]; exact psi_some hlt.2.1 (htop5 hT) (Nat.le_of_eq how) (by obtain ⟨t, ht⟩ := hlt.2.2; rw [ht]; exact hinc)⟩, hw54, hwh, mI, mA, m526, hs.to⟩ (by show _ - _ < _ - _; omega)
                    | exact X.againD (now + 1, ds, (_, F56), (os, fs.set k (u + 1)), (FH, FI), (_, F58_2), (_, F526)) rfl ⟨rfl, rfl, rfl, rfl, rfl, rfl, rfl, rfl, rfl, rfl, rfl, rfl, trivial⟩ ⟨⟨by omega, hev5, hmp2, hnd, har, psi_next hn30 hps hev5 fun hT => by rw [← hss hT]; exact psi_some hev5 (htop5 hT) (Nat.le_of_eq how) (by rw [han.2.2]; exact hinc)⟩, hw56, hwh, mI, m58_2, m526, hs.to⟩ (by show _ - _ < _ - _; omega)
                    | exact X.againD (now + 1, ds, (s3, F51), (os, fs), (FH, FI), (AM, FA), (TM, FT)) rfl ⟨rfl, rfl, rfl, rfl, rfl, rfl, rfl, rfl, rfl, rfl, rfl, rfl, trivial⟩ ⟨⟨by omega, hev3.wide htop, hmp, hnd, har, psi_next hn30 hps (hev3.wide htop) fun hT => absurd (h50 h272) (by unfold T0 at hT; omega)⟩, hw51, hwh, mI, mA, mT, hs.to⟩ (by show _ - _ < _ - _; omega)
                    | exact X.againD (now + 1, ds, (s3, F44), (os, fs), (FH, FI), (AM, FA), (TM, FT)) rfl ⟨rfl, rfl, rfl, rfl, rfl, rfl, rfl, rfl, rfl, rfl, rfl, rfl, trivial⟩ ⟨⟨by omega, hev3.wide htop, hmp, hnd, har, psi_next hn30 hps (hev3.wide htop) fun hT => by rw [← hss hT]; exact psi_none (by omega) hev3 (hall hT) hLA hA hfu hinc (hno (by omega))⟩, hw44, hwh, mI, mA, mT, hs.to⟩ (by show _ - _ < _ - _; omega)
                · obtain ⟨e, bk_e, of_e, he, me, le, rfl, Ae⟩ := hs.el (i := 0) (ad := ad44) (n := ln.length) (c := cap44) (by omega)
                  obtain ⟨k, u, hko, hkn, hkp, rfl, hku, hkf⟩ := hev3.find (hsub e me)
                  obtain ⟨y, bk_y, of_y, hy, my, ly, rfl, Ay⟩ := hs.el (i := k) (ad := ad) (n := n) (c := cp) (by omega)
                  obtain ⟨m, bk_m, of_m, hm, mm, lm, rfl, Am⟩ := hs.el (i := k) (ad := adM) (n := M.length) (c := cM) (by omega)
                  have ae := Ae _ hs
                  have hy0 : l.getD k default = y := getD_of hy
                  have hm0 : M.getD k 0 = m := getD_of hm
                  have hpa : y.snd = false ∧ ¬ ((y.g.toNat % 3 : Nat) : Int) = 2 := by rw [paF, sndF, grpF, hy0] at hkp; simp at hkp; exact ⟨hkp.1, by omega⟩
                  have hla : laF l k = y.l.toNat % 3 := by rw [laF, hy0]
                  have hmn := (har k hkn).1 hko
                  have hof := hev3.off (hsub _ me)
                  have hko' : (UInt8.ofNat (40 - k)).toNat = 40 - k := by rw [UInt8.toNat_ofNat']; omega
                  have hfu0 : fs.getD k 0 = u := getD_of hku
                  have hTk := hmp.t k hkn
                  have hAk := hmp.a k hkn
                  have hyg := y.g.toNat_lt
                  have hyl := y.l.toNat_lt
                  refine C.skip ?_
                  refine X.next ?_
                  refine C.seq ?_
                  refine C.region ?_
                  refine R.ev rfl (E.move rfl) ?_
                  refine R.ev rfl (E.indexAddr (i := 0) rfl rfl Tryz.underlying55 Tryz.sz45 rfl (by omega)) ?_
                  refine R.ev rfl (E.loadRowC rfl Tryz.underlying45 rfl Tryz.sz45 (by first | exact ⟨hs.ldA, by first | rfl | assumption | exact encV_len _ | exact Enc.len _ | exact len_ub (by assumption)⟩ | exact ⟨hs.ldP rfl, by first | rfl | assumption | exact encV_len _ | exact Enc.len _ | exact len_ub (by assumption)⟩ | exact ⟨hs.ldM rfl rfl, by first | rfl | assumption | exact encV_len _ | exact Enc.len _ | exact len_ub (by assumption)⟩ | exact ⟨hs.ldM (by assumption) (by first | rfl | assumption), by first | rfl | assumption | exact encV_len _ | exact Enc.len _ | exact len_ub (by assumption)⟩ | exact ⟨by assumption, by first | rfl | assumption | exact encV_len _ | exact Enc.len _ | exact len_ub (by assumption)⟩ | exact hs.ldp | exact At.partC (by assumption))) ?_
                  refine R.sallocA hs Tryz.zr45 rfl ?_
                  intro b27 w27 hs
                  first | refine R.cstoreAll hs rfl rfl Tryz.sz45 (by first | rfl | assumption | exact encV_len _ | exact Enc.len _ | exact len_ub (by assumption) | simp [*]) (by first | rfl | assumption | exact encV_len _ | exact Enc.len _ | exact len_ub (by assumption) | simp [*]) (by first | assumption | exact OneL.all | exact Enc.one _ | exact ub_all _ | (repeat' (first | refine List.forall_mem_cons.2 ⟨?_, ?_⟩ | exact List.forall_mem_nil _ | rfl | exact OneC.one | exact KRow.oneC' (by assumption)))) ?_ | refine R.cstore hs rfl rfl Tryz.sz45 (by first | rfl | assumption | exact encV_len _ | exact Enc.len _ | exact len_ub (by assumption) | simp [*]) (by simp [*]) (by first | assumption | exact OneL.all | exact Enc.one _ | exact ub_all _ | (repeat' (first | refine List.forall_mem_cons.2 ⟨?_, ?_⟩ | exact List.forall_mem_nil _ | rfl | exact OneC.one | exact KRow.oneC' (by assumption)))) ?_
                  intro w46_4 hs
                  try simp only [List.set_cons_zero, List.set_cons_succ] at hs
                  refine R.done ?_
                  refine X.keep [(0, _), (2, _), (7, _), (9, _), (11, _), (12, _), (13, _), (14, _), (15, _), (16, _), (17, _), (19, _), (27, _)] ⟨rfl, rfl, rfl, rfl, rfl, rfl, rfl, rfl, rfl, rfl, rfl, rfl, rfl, trivial⟩ ?_
                  refine X.next ?_
                  refine C.seq ?_
                  refine C.region ?_
                  refine R.ev rfl (E.indexAddrA0 0 0 rfl rfl Tryz.underlying45 Tryz.sz5 rfl rfl) ?_
                  refine R.ev rfl (E.load1 rfl Tryz.underlying5 rfl (by first | exact hs.ldc | exact hs.ld rfl | exact hs.ld (by assumption) | exact by assumption | exact At.cellC (by assumption) | exact hs.ldK rfl)) ?_
                  refine R.ev rfl ((E.conv rfl Tryz.underlying5 Tryz.underlying3).isI (c := ((40 - k : Nat) : Int)) (by show IntKind.i64.wrap (((UInt8.ofNat (40 - k)).toNat : Nat) : Int) = _; rw [hko']; exact wrap_i64 (by omega) (by omega))) ?_
                  refine R.ev rfl ((E.sub rfl rfl (by omega) (by omega)).isI (c := ((k : Nat) : Int)) (by omega)) ?_
                  refine R.ev rfl (E.assign rfl) ?_
                  refine R.done ?_
                  refine X.keep [(0, _), (2, _), (7, _), (9, _), (11, _), (12, _), (13, _), (14, _), (15, _), (16, _), (17, _), (19, _), (27, _), (28, _)] ⟨rfl, rfl, rfl, rfl, rfl, rfl, rfl, rfl, rfl, rfl, rfl, rfl, rfl, rfl, trivial⟩ ?_
                  refine X.next ?_
                  refine C.seq ?_
                  refine C.seq ?_
                  refine C.region ?_
                  replace Ay := hs.elAt (b := bk_y) (off := of_y) (n := n) (cp) hy
                  have ay := Ay _ hs
                  replace Am := hs.elAt (b := bk_m) (off := of_m) (n := M.length) (cM) hm
                  have am := Am _ hs
                  refine R.ev rfl (E.move rfl) ?_
                  refine R.ev rfl ((E.lss rfl rfl).isF (by omega)) ?_
                  refine R.ev rfl (E.move rfl) ?_
                  refine R.gyes rfl rfl ?_
                  refine R.ev rfl (E.move rfl) ?_
                  refine R.gyes rfl rfl ?_
                  refine R.ev rfl (E.move rfl) ?_
                  refine R.gyes rfl rfl ?_
                  refine R.ev rfl (E.lenSl rfl Tryz.underlying22) ?_
                  refine R.gyes rfl rfl ?_
                  refine R.ev rfl ((E.geq rfl rfl).isF (by omega)) ?_
                  refine R.ev rfl (E.pickF rfl rfl) ?_
                  refine R.ev rfl (E.move rfl) ?_
                  refine R.gyes rfl rfl ?_
                  refine R.ev rfl (E.move rfl) ?_
                  refine R.gyes rfl rfl ?_
                  refine R.ev rfl (E.move rfl) ?_
                  refine R.gyes rfl rfl ?_
                  refine R.ev rfl (E.indexAddr rfl rfl Tryz.underlying22 Tryz.sz43 rfl (by first | omega | decide)) ?_
                  refine R.gyes rfl rfl ?_
                  first | refine R.ev rfl (E.fieldAddr0 3 rfl Tryz.underlying43 rfl Tryz.sz4 rfl) ?_ | refine R.ev rfl (E.fieldAddrN 3 rfl Tryz.underlying43 rfl Tryz.sz4 rfl) ?_
                  refine R.gyes rfl rfl ?_
                  refine R.ev rfl ((E.load1 rfl Tryz.underlying4 rfl (ay 3 _ rfl)).isB (c := false) hpa.1) ?_
                  refine R.ev rfl (E.pickF rfl rfl) ?_
                  refine R.ev rfl (E.move rfl) ?_
                  refine R.gyes rfl rfl ?_
                  refine R.ev rfl (E.move rfl) ?_
                  refine R.gyes rfl rfl ?_
                  refine R.ev rfl (E.move rfl) ?_
                  refine R.gyes rfl rfl ?_
                  refine R.ev rfl (E.indexAddr rfl rfl Tryz.underlying22 Tryz.sz43 rfl (by first | omega | decide)) ?_
                  refine R.gyes rfl rfl ?_
                  first | refine R.ev rfl (E.fieldAddr0 0 rfl Tryz.underlying43 rfl Tryz.sz5 rfl) ?_ | refine R.ev rfl (E.fieldAddrN 0 rfl Tryz.underlying43 rfl Tryz.sz5 rfl) ?_
                  refine R.gyes rfl rfl ?_
                  refine R.ev rfl (E.load1 rfl Tryz.underlying5 rfl (by first | exact hs.ldc | exact hs.ld rfl | exact hs.ld (by assumption) | exact by assumption | exact At.cellC (by assumption) | exact hs.ldK rfl)) ?_
                  refine R.gyes rfl rfl ?_
                  refine R.ev rfl ((E.rem rfl rfl (by decide) (by omega)).isI (c := ((y.g.toNat % 3 : Nat) : Int)) (by omega)) ?_
                  refine R.gyes rfl rfl ?_
                  refine R.ev rfl ((E.eql rfl rfl).isF (by exact hpa.2)) ?_
                  refine R.ev rfl (E.pickF rfl rfl) ?_
                  refine R.ev rfl (E.move rfl) ?_
                  refine R.gyes rfl rfl ?_
                  refine R.ev rfl (E.load1 rfl Tryz.underlying39 rfl (by first | exact hs.ldc | exact hs.ld rfl | exact hs.ld (by assumption) | exact by assumption | exact At.cellC (by assumption) | exact hs.ldK rfl)) ?_
                  refine R.gyes rfl rfl ?_
                  refine R.ev rfl (E.loadRowC rfl Tryz.underlying45 rfl Tryz.sz45 (by first | exact ⟨hs.ldA, by first | rfl | assumption | exact encV_len _ | exact Enc.len _ | exact len_ub (by assumption)⟩ | exact ⟨hs.ldP rfl, by first | rfl | assumption | exact encV_len _ | exact Enc.len _ | exact len_ub (by assumption)⟩ | exact ⟨hs.ldM rfl rfl, by first | rfl | assumption | exact encV_len _ | exact Enc.len _ | exact len_ub (by assumption)⟩ | exact ⟨hs.ldM (by assumption) (by first | rfl | assumption), by first | rfl | assumption | exact encV_len _ | exact Enc.len _ | exact len_ub (by assumption)⟩ | exact ⟨by assumption, by first | rfl | assumption | exact encV_len _ | exact Enc.len _ | exact len_ub (by assumption)⟩ | exact hs.ldp | exact At.partC (by assumption))) ?_
                  refine R.gyes rfl rfl ?_
                  refine R.ev rfl ((E.lookupD hs rfl rfl Tryz.underlying39 (idq k) (by rfl)).isB (c := false) (by rw [hAk, hfu0]; exact decide_eq_false (by omega))) ?_
                  refine R.ev rfl (E.pickF rfl rfl) ?_
                  refine R.ev rfl (E.move rfl) ?_
                  refine R.gyes rfl rfl ?_
                  refine R.ev rfl (E.move rfl) ?_
                  refine R.gyes rfl rfl ?_
                  refine R.ev rfl (E.move rfl) ?_
                  refine R.gyes rfl rfl ?_
                  refine R.ev rfl (E.move rfl) ?_
                  refine R.gyes rfl rfl ?_
                  refine R.ev rfl (E.indexAddr (i := k) rfl rfl Tryz.underlying41 Tryz.sz3 rfl (by omega)) ?_
                  refine R.gyes rfl rfl ?_
                  refine R.ev rfl (E.load1 rfl Tryz.underlying3 rfl (am 0 _ rfl)) ?_
                  refine R.gyes rfl rfl ?_
                  refine R.ev rfl ((E.lss rfl rfl).isF (by omega)) ?_
                  refine R.ev rfl (E.pickF rfl rfl) ?_
                  refine R.ev rfl (E.move rfl) ?_
                  refine R.gyes rfl rfl ?_
                  refine R.ev rfl (E.move rfl) ?_
                  refine R.gyes rfl rfl ?_
                  refine R.ev rfl (E.loadRowC rfl Tryz.underlying45 rfl Tryz.sz45 (by first | exact ⟨hs.ldA, by first | rfl | assumption | exact encV_len _ | exact Enc.len _ | exact len_ub (by assumption)⟩ | exact ⟨hs.ldP rfl, by first | rfl | assumption | exact encV_len _ | exact Enc.len _ | exact len_ub (by assumption)⟩ | exact ⟨hs.ldM rfl rfl, by first | rfl | assumption | exact encV_len _ | exact Enc.len _ | exact len_ub (by assumption)⟩ | exact ⟨hs.ldM (by assumption) (by first | rfl | assumption), by first | rfl | assumption | exact encV_len _ | exact Enc.len _ | exact len_ub (by assumption)⟩ | exact ⟨by assumption, by first | rfl | assumption | exact encV_len _ | exact Enc.len _ | exact len_ub (by assumption)⟩ | exact hs.ldp | exact At.partC (by assumption))) ?_
                  refine R.gyes rfl rfl ?_
                  refine R.call ⟨_, _, Tryz.func18, rfl, by kernel_rfl⟩ rfl rfl (offered_any (idq k) (hs.front (F := F44))) ?_
                  rintro _ w48 ⟨rfl, F48, hw48, hs1⟩
                  have hs := hs.back (F := F44) hs1
                  rw [hof.1]
                  rw [hof.2] at hw48
                  refine R.gyes rfl rfl ?_
                  refine R.ev rfl ((E.neq rfl rfl).isF (by decide)) ?_
                  refine R.ev rfl (E.pickF rfl rfl) ?_
                  refine R.done ?_
                  refine X.keep [(0, _), (2, _), (7, _), (9, _), (11, _), (12, _), (13, _), (14, _), (15, _), (16, _), (17, _), (19, _), (27, _), (28, _), (262, _)] ⟨rfl, rfl, rfl, rfl, rfl, rfl, rfl, rfl, rfl, rfl, rfl, rfl, rfl, rfl, rfl, trivial⟩ ?_
                  refine X.next ?_
                  refine C.cfalse rfl ?_
                  refine C.skip ?_
                  refine X.next ?_
                  refine C.seq ?_
                  refine C.seq ?_
                  refine C.cut [(0, _), (2, _), (7, _), (9, _), (11, _), (12, _), (13, _), (14, _), (15, _), (16, _), (17, _), (19, _), (27, _), (28, _)] (fun (b50 : Bool) => [(272, .bool b50)]) (fun b50 w2 => (b50 = true → now < 64) ∧ Sat K4 w2 (row b27 45 (encV (idq k)) :: dfsP ds :: F48 :: FH :: FI :: FA :: FT :: FM :: row b7 26 [ptr f] :: row b13 38 [v73] :: row b14 39 [v74] :: [])) ⟨rfl, rfl, rfl, rfl, rfl, rfl, rfl, rfl, rfl, rfl, rfl, rfl, rfl, rfl, trivial⟩ ?_ ?_
                  · refine C.region ?_
                    refine R.ev rfl (E.move rfl) ?_
                    refine R.ev rfl (E.lss rfl rfl) ?_
                    refine R.ev rfl (E.move rfl) ?_
                    refine R.split 265 rfl (fun h265 => ?_) (fun h265 => ?_)
                    · refine R.gyes rfl rfl ?_
                      refine R.ev rfl (E.move rfl) ?_
                      refine R.gyes rfl rfl ?_
                      refine R.ev rfl (E.move rfl) ?_
                      refine R.gyes rfl rfl ?_
                      refine R.ev rfl (E.quo rfl rfl (by omega) (by omega) (by omega)) ?_
                      refine R.gyes rfl rfl ?_
                      refine R.ev rfl (E.shr rfl rfl (by omega)) ?_
                      refine R.gyes rfl rfl ?_
                      refine R.ev rfl (E.and rfl rfl) ?_
                      refine R.gyes rfl rfl ?_
                      refine R.ev rfl (E.eql rfl rfl) ?_
                      refine R.ev rfl (E.pickT rfl rfl) ?_
                      refine R.done ?_
                      refine X.keep [(0, _), (2, _), (7, _), (9, _), (11, _), (12, _), (13, _), (14, _), (15, _), (16, _), (17, _), (19, _), (27, _), (28, _), (272, _)] ⟨rfl, rfl, rfl, rfl, rfl, rfl, rfl, rfl, rfl, rfl, rfl, rfl, rfl, rfl, rfl, trivial⟩ ?_
                      first
                        | exact X.cut (_) ⟨lkV rfl rfl, rfl, rfl, rfl, rfl, rfl, rfl, rfl, rfl, rfl, rfl, rfl, rfl, rfl, rfl, trivial⟩ ⟨fun _ => by have := of_decide_eq_true h265; omega, hs.to⟩
                        | exact X.cut (_) ⟨lkV rfl rfl, rfl, rfl, rfl, rfl, rfl, rfl, rfl, rfl, rfl, rfl, rfl, rfl, rfl, rfl, trivial⟩ ⟨fun h => Bool.noConfusion h, hs.to⟩
                    · refine R.gskip rfl rfl rfl ?_
                      refine R.gskip rfl rfl rfl ?_
                      refine R.gskip rfl rfl rfl ?_
                      refine R.gskip rfl rfl rfl ?_
                      refine R.gskip rfl rfl rfl ?_
                      refine R.gskip rfl rfl rfl ?_
                      refine R.ev rfl (E.pickF rfl rfl) ?_
                      refine R.done ?_
                      refine X.keep [(0, _), (2, _), (7, _), (9, _), (11, _), (12, _), (13, _), (14, _), (15, _), (16, _), (17, _), (19, _), (27, _), (28, _), (272, _)] ⟨rfl, rfl, rfl, rfl, rfl, rfl, rfl, rfl, rfl, rfl, rfl, rfl, rfl, rfl, rfl, trivial⟩ ?_
                      first
                        | exact X.cut (_) ⟨lkV rfl rfl, rfl, rfl, rfl, rfl, rfl, rfl, rfl, rfl, rfl, rfl, rfl, rfl, rfl, rfl, trivial⟩ ⟨fun _ => by have := of_decide_eq_true h265; omega, hs.to⟩
                        | exact X.cut (_) ⟨lkV rfl rfl, rfl, rfl, rfl, rfl, rfl, rfl, rfl, rfl, rfl, rfl, rfl, rfl, rfl, rfl, trivial⟩ ⟨fun h => Bool.noConfusion h, hs.to⟩
                  · rintro b50 w50 ⟨h50, hs⟩
                    refine X.keep [(0, _), (2, _), (7, _), (9, _), (11, _), (12, _), (13, _), (14, _), (15, _), (16, _), (17, _), (19, _), (27, _), (28, _), (272, _)] ⟨rfl, rfl, rfl, rfl, rfl, rfl, rfl, rfl, rfl, rfl, rfl, rfl, rfl, rfl, rfl, trivial⟩ ?_
                    refine X.next ?_
                    refine C.cbool rfl (fun h272 => ?_) (fun h272 => ?_)
                    · refine C.seq ?_
                      refine C.region ?_
                      refine R.ev rfl (E.move rfl) ?_
                      refine R.call ⟨_, _, Tryz.func11, rfl, by kernel_rfl⟩ rfl rfl (drop_any (hs.front (F := F48))) ?_
                      rintro _ w51 ⟨rfl, F51, hw51, hs1⟩
                      have hs := hs.back (F := F48) hs1
                      have e51 : ({ s3 with M := [] } : Bk) = s3 := by have := hev3.m; cases s3; simp_all
                      have hw51 : BkL pb s3 F51 := by rw [← e51]; exact hw51
                      refine R.done ?_
                      refine X.keep [(0, _), (2, _), (7, _), (9, _), (11, _), (12, _), (13, _), (14, _), (15, _), (16, _), (17, _), (19, _)] ⟨rfl, rfl, rfl, rfl, rfl, rfl, rfl, rfl, rfl, rfl, rfl, rfl, trivial⟩ ?_
                      refine X.next ?_
                      refine C.exit ?_
                      refine X.thenExit ?_
                      refine X.blockExit ?_
                      refine X.next ?_
                      refine C.region ?_
                      refine R.ev rfl (E.move rfl) ?_
                      refine R.ev rfl (E.add rfl rfl (by omega) (by omega)) ?_
                      refine R.ev rfl (E.assign rfl) ?_
                      refine R.done ?_
                      refine X.keep [(0, _), (2, _), (7, _), (9, _), (11, _), (12, _), (13, _), (14, _), (15, _), (16, _), (17, _), (19, _)] ⟨rfl, rfl, rfl, rfl, rfl, rfl, rfl, rfl, rfl, rfl, rfl, rfl, trivial⟩ ?_
                      have hall : T0 a ≤ now → ∀ k, k < n → k ∈ os := fun hT k hk => (har k hk).2 (by have := hm210 k; unfold T0 at hT; omega)
                      have hss : T0 a ≤ now → s2 = s := fun hT => hsame (by unfold T0 at hT; omega)
                      have htop : topN a now ≤ topN a (now + 1) := by unfold topN; omega
                      have htop5 : T0 a ≤ now → topN a (now + 1) ≤ ((now : Nat) : Int) + 5 := fun hT => by unfold topN; unfold T0 at hT; omega
                      first
                        | exact X.againD (now + 1, ds, (_, F54), (os, fs.set k (u + 1)), (FH, FI), (AM, FA), (_, F526)) rfl ⟨rfl, rfl, rfl, rfl, rfl, rfl, rfl, rfl, rfl, rfl, rfl, rfl, trivial⟩ ⟨⟨by omega, hlt.2.1, hmp2, hnd, har, psi_next hn30 hps hlt.2.1 fun hT => by rw [← hss hT]; exact psi_some hlt.2.1 (htop5 hT) (Nat.le_of_eq how) (by obtain ⟨t, ht⟩ := hlt.2.2; rw [ht]; exact hinc)⟩, hw54, hwh, mI, mA, m526, hs.to⟩ (by show _ - _ < _ - _; omega)
                        | exact X.againD (now + 1, ds, (_, F56), (os, fs.set k (u + 1)), (FH, FI), (_, F58_2), (_, F526)) rfl ⟨rfl, rfl, rfl, rfl, rfl, rfl, rfl, rfl, rfl, rfl, rfl, rfl, trivial⟩ ⟨⟨by omega, hev5, hmp2, hnd, har, psi_next hn30 hps hev5 fun hT => by rw [← hss hT]; exact psi_some hev5 (htop5 hT) (Nat.le_of_eq how) (by rw [han.2.2]; exact hinc)⟩, hw56, hwh, mI, m58_2, m526, hs.to⟩ (by show _ - _ < _ - _; omega)
                        | exact X.againD (now + 1, ds, (s3, F51), (os, fs), (FH, FI), (AM, FA), (TM, FT)) rfl ⟨rfl, rfl, rfl, rfl, rfl, rfl, rfl, rfl, rfl, rfl, rfl, rfl, trivial⟩ ⟨⟨by omega, hev3.wide htop, hmp, hnd, har, psi_next hn30 hps (hev3.wide htop) fun hT => absurd (h50 h272) (by unfold T0 at hT; omega)⟩, hw51, hwh, mI, mA, mT, hs.to⟩ (by show _ - _ < _ - _; omega)
                        | exact X.againD (now + 1, ds, (s3, F44), (os, fs), (FH, FI), (AM, FA), (TM, FT)) rfl ⟨rfl, rfl, rfl, rfl, rfl, rfl, rfl, rfl, rfl, rfl, rfl, rfl, trivial⟩ ⟨⟨by omega, hev3.wide htop, hmp, hnd, har, psi_next hn30 hps (hev3.wide htop) fun hT => by rw [← hss hT]; exact psi_none (by omega) hev3 (hall hT) hLA hA hfu hinc (hno (by omega))⟩, hw44, hwh, mI, mA, mT, hs.to⟩ (by show _ - _ < _ - _; omega)
                    · refine C.skip ?_
                      refine X.next ?_
                      refine C.seq ?_
                      refine C.drawn (fun w1 => ∃ TM' F', (lkM TM' (idq k)).getD 0 = ((u : Nat) : Int) ∧ MapL ekI (Value.int .i64) v75 TM' F' ∧ Sat K4 w1 [row b27 45 (encV (idq k)), F']) ([1, 2], [0, 3, 5]) (by kernel_rfl) ?_
                      have hs := hs.drew
                      refine D.evP 0 rfl (by kernel_rfl) rfl (fun _ => ⟨TM, FT, by rw [hTk, hfu0], mT, hs.to⟩) (fun _ => E.move rfl) ?_
                      refine D.ev 1 rfl (by kernel_rfl) rfl ⟨TM, FT, by rw [hTk, hfu0], mT, hs.to⟩ (fun _ hS => E.loadRowC (cs := encV (idq k)) rfl Tryz.underlying45 rfl Tryz.sz45 (by obtain ⟨TM', F', _, _, h⟩ := hS; exact ⟨h.ldA, encV_len _⟩)) ?_
                      refine D.ev 2 rfl (by kernel_rfl) rfl ⟨TM, FT, by rw [hTk, hfu0], mT, hs.to⟩ (fun _ hS => (by obtain ⟨TM', F', h1, h2, h⟩ := hS; exact (E.lookupD h rfl rfl Tryz.underlying40 (idq k) rfl).isI h1)) ?_
                      refine D.evP 3 rfl (by kernel_rfl) rfl (fun _ => ⟨TM, FT, by rw [hTk, hfu0], mT, hs.to⟩) (fun _ => (E.add rfl rfl (by omega) (by omega)).isI (c := ((u + 1 : Nat) : Int)) (by omega)) ?_
                      refine D.act 4 rfl (by kernel_rfl) ?_
                      refine R.centry (ev := Value.int .i64) (idq k) hs rfl rfl Tryz.underlying40 (by rfl) rfl ?_
                      intro st52 w52 F52 m52 hs
                      refine D.back ⟨_, F52, by rw [lkM_put, if_pos rfl, hTk, hfu0]; rfl, m52.map, hs.to⟩ ?_
                      refine D.evP 5 rfl (by kernel_rfl) rfl (fun _ => ⟨_, F52, by rw [lkM_put, if_pos rfl, hTk, hfu0]; rfl, m52.map, hs.to⟩) (fun _ => E.extract rfl rfl) ?_
                      refine D.act 6 rfl (by kernel_rfl) ?_
                      refine R.cstamp (F := F52) (h := m52) (ev := Value.int .i64) (k := idq k) ((u + 1 : Nat) : Int) hs rfl rfl rfl rfl ?_
                      intro w526 F526 m526 hs
                      refine D.backT (by kernel_rfl) ?_
                      refine D.done rfl (by kernel_rfl) ?_
                      refine X.keep [(0, _), (2, _), (7, _), (9, _), (11, _), (12, _), (13, _), (14, _), (15, _), (16, _), (17, _), (19, _), (27, _), (28, _)] ⟨rfl, rfl, rfl, rfl, rfl, rfl, rfl, rfl, rfl, rfl, rfl, rfl, rfl, rfl, trivial⟩ ?_
                      refine X.next ?_
                      refine C.seq ?_
                      refine C.seq ?_
                      refine C.drawn (SatS hs) ([1, 2, 7], [0, 3, 4, 5, 6, 8, 9, 10]) (by kernel_rfl) ?_
                      have hs := hs.drew
                      replace Ay := hs.elAt (b := bk_y) (off := of_y) (n := n) (cp) hy
                      have ay := Ay _ hs
                      refine D.evP 0 rfl (by kernel_rfl) rfl (fun _ => hs.to) (fun _ => E.move rfl) ?_
                      refine D.evP 3 rfl (by kernel_rfl) rfl (fun _ => hs.to) (fun _ => E.move rfl) ?_
                      refine D.evP 4 rfl (by kernel_rfl) rfl (fun _ => hs.to) (fun _ => E.move rfl) ?_
                      refine D.evP 5 rfl (by kernel_rfl) rfl (fun _ => hs.to) (fun _ => E.indexAddr rfl rfl Tryz.underlying22 Tryz.sz43 rfl (by first | omega | decide)) ?_
                      first | refine D.evP 6 rfl (by kernel_rfl) rfl (fun _ => hs.to) (fun _ => E.fieldAddr0 2 rfl Tryz.underlying43 rfl Tryz.sz5 rfl) ?_ | refine D.evP 6 rfl (by kernel_rfl) rfl (fun _ => hs.to) (fun _ => E.fieldAddrN 2 rfl Tryz.underlying43 rfl Tryz.sz5 rfl) ?_
                      refine D.ev 1 rfl (by kernel_rfl) rfl hs.to (fun _ hS => E.loadRowC (cs := encV (idq k)) rfl Tryz.underlying45 rfl Tryz.sz45 ⟨hS.ldA, encV_len _⟩) ?_
                      refine D.ev 2 rfl (by kernel_rfl) rfl hs.to (fun _ hS => (E.lookupD hS rfl rfl Tryz.underlying40 (idq k) (by rfl)).isI (c := ((u + 1 : Nat) : Int)) (by rw [lkM_put, if_pos rfl]; rfl)) ?_
                      refine D.ev 7 rfl (by kernel_rfl) rfl hs.to (fun _ hS => E.load1 rfl Tryz.underlying5 rfl (by first | exact hS.ldc | exact hS.ld rfl | exact hS.ld (by assumption) | exact by assumption | exact At.cellC (by assumption) | exact hS.ldK rfl | exact At.cellC ((by assumption : ∀ w', Sat _ w' _ → At w' _ _ _) _ hS) | exact (by assumption : ∀ w', Sat _ w' _ → World.cell? w' _ = some _) _ hS)) ?_
                      refine D.evP 8 rfl (by kernel_rfl) rfl (fun _ => hs.to) (fun _ => (E.rem rfl rfl (by decide) (by omega)).isI (c := ((y.l.toNat % 3 : Nat) : Int)) (by omega)) ?_
                      refine D.evP 9 rfl (by kernel_rfl) rfl (fun _ => hs.to) (fun _ => (E.conv rfl Tryz.underlying5 Tryz.underlying3).isI (c := ((laF l k : Nat) : Int)) (by rw [hla]; exact wrap_i64 (by omega) (by omega))) ?_
                      refine D.evP 10 rfl (by kernel_rfl) rfl (fun _ => hs.to) (fun _ => E.leq rfl rfl) ?_
                      refine D.done rfl (by kernel_rfl) ?_
                      refine X.keep [(0, _), (2, _), (7, _), (9, _), (11, _), (12, _), (13, _), (14, _), (15, _), (16, _), (17, _), (19, _), (27, _), (291, _)] ⟨rfl, rfl, rfl, rfl, rfl, rfl, rfl, rfl, rfl, rfl, rfl, rfl, rfl, rfl, trivial⟩ ?_
                      refine X.next ?_
                      refine C.cdec rfl (fun h291 => ?_) (fun h291 => ?_)
                      · refine C.seq ?_
                        refine C.seq ?_
                        refine C.region ?_
                        refine R.ev rfl (E.move rfl) ?_
                        refine R.ev rfl (E.loadRowC rfl Tryz.underlying45 rfl Tryz.sz45 (by first | exact ⟨hs.ldA, by first | rfl | assumption | exact encV_len _ | exact Enc.len _ | exact len_ub (by assumption)⟩ | exact ⟨hs.ldP rfl, by first | rfl | assumption | exact encV_len _ | exact Enc.len _ | exact len_ub (by assumption)⟩ | exact ⟨hs.ldM rfl rfl, by first | rfl | assumption | exact encV_len _ | exact Enc.len _ | exact len_ub (by assumption)⟩ | exact ⟨hs.ldM (by assumption) (by first | rfl | assumption), by first | rfl | assumption | exact encV_len _ | exact Enc.len _ | exact len_ub (by assumption)⟩ | exact ⟨by assumption, by first | rfl | assumption | exact encV_len _ | exact Enc.len _ | exact len_ub (by assumption)⟩ | exact hs.ldp | exact At.partC (by assumption))) ?_
                        refine R.ev rfl (E.move rfl) ?_
                        refine R.call ⟨_, _, Tryz.func19, rfl, by kernel_rfl⟩ rfl rfl (later_any (idq k) now (hs.front (F := F48)) (by have := hev3.b.le; rw [hev3.cap] at this; show s3.L.length ≤ _; omega) (by show isWt s3.wait = true; rw [hev3.wt]; rfl) (fun e he => by obtain ⟨j, x, _, _, _, hx, _, _, h1, h2⟩ := hev3.ent e he; have := hmp.x j x hx; have := la_le l j; exact ⟨h1, by omega⟩)) ?_
                        rintro _ w54 ⟨rfl, F54, hw54, hs1⟩
                        have hs := hs.back (F := F48) hs1
                        have hul : u + 1 ≤ laF l k := by omega
                        have htop : topN a now ≤ topN a (now + 1) := by unfold topN; omega
                        have hlt := hev3.lat hn30 hko hkp (hsub _ me) hku hul (now := ((now : Nat) : Int)) (top' := topN a (now + 1)) htop (by unfold topN; omega) (by simp only [isMin, Bool.and_eq_true, decide_eq_true_eq]; omega) (by simp only [isMin, Bool.and_eq_true, decide_eq_true_eq]; omega)
                        have hmp2 := hmp.later hn30 hev3.len hkn hku hul
                        have how := owed_set (o := 0) (f := gof (laF l) (paF l)) hku (by rw [Nat.zero_add, gof, hkp, if_pos rfl]; omega)
                        rw [putM_twice] at m526
                        rw [hlt.1]
                        refine R.ev rfl ((E.neq rfl rfl).isF (by decide)) ?_
                        refine R.done ?_
                        refine X.keep [(0, _), (2, _), (7, _), (9, _), (11, _), (12, _), (13, _), (14, _), (15, _), (16, _), (17, _), (19, _), (296, _)] ⟨rfl, rfl, rfl, rfl, rfl, rfl, rfl, rfl, rfl, rfl, rfl, rfl, rfl, trivial⟩ ?_
                        refine X.next ?_
                        refine C.cfalse rfl ?_
                        refine C.skip ?_
                        refine X.next ?_
                        refine C.exit ?_
                        refine X.thenExit ?_
                        refine X.blockExit ?_
                        refine X.next ?_
                        refine C.region ?_
                        refine R.ev rfl (E.move rfl) ?_
                        refine R.ev rfl (E.add rfl rfl (by omega) (by omega)) ?_
                        refine R.ev rfl (E.assign rfl) ?_
                        refine R.done ?_
                        refine X.keep [(0, _), (2, _), (7, _), (9, _), (11, _), (12, _), (13, _), (14, _), (15, _), (16, _), (17, _), (19, _)] ⟨rfl, rfl, rfl, rfl, rfl, rfl, rfl, rfl, rfl, rfl, rfl, rfl, trivial⟩ ?_
                        have hall : T0 a ≤ now → ∀ k, k < n → k ∈ os := fun hT k hk => (har k hk).2 (by have := hm210 k; unfold T0 at hT; omega)
                        have hss : T0 a ≤ now → s2 = s := fun hT => hsame (by unfold T0 at hT; omega)
                        have htop : topN a now ≤ topN a (now + 1) := by unfold topN; omega
                        have htop5 : T0 a ≤ now → topN a (now + 1) ≤ ((now : Nat) : Int) + 5 := fun hT => by unfold topN; unfold T0 at hT; omega
                        first
                          | exact X.againD (now + 1, ds, (_, F54), (os, fs.set k (u + 1)), (FH, FI), (AM, FA), (_, F526)) rfl ⟨rfl, rfl, rfl, rfl, rfl, rfl, rfl, rfl, rfl, rfl, rfl, rfl, trivial⟩ ⟨⟨by omega, hlt.2.1, hmp2, hnd, har, psi_next hn30 hps hlt.2.1 fun hT => by rw [← hss hT]; exact psi_some hlt.2.1 (htop5 hT) (Nat.le_of_eq how) (by obtain ⟨t, ht⟩ := hlt.2.2; rw [ht]; exact hinc)⟩, hw54, hwh, mI, mA, m526, hs.to⟩ (by show _ - _ < _ - _; omega)
                          | exact X.againD (now + 1, ds, (_, F56), (os, fs.set k (u + 1)), (FH, FI), (_, F58_2), (_, F526)) rfl ⟨rfl, rfl, rfl, rfl, rfl, rfl, rfl, rfl, rfl, rfl, rfl, rfl, trivial⟩ ⟨⟨by omega, hev5, hmp2, hnd, har, psi_next hn30 hps hev5 fun hT => by rw [← hss hT]; exact psi_some hev5 (htop5 hT) (Nat.le_of_eq how) (by rw [han.2.2]; exact hinc)⟩, hw56, hwh, mI, m58_2, m526, hs.to⟩ (by show _ - _ < _ - _; omega)
                          | exact X.againD (now + 1, ds, (s3, F51), (os, fs), (FH, FI), (AM, FA), (TM, FT)) rfl ⟨rfl, rfl, rfl, rfl, rfl, rfl, rfl, rfl, rfl, rfl, rfl, rfl, trivial⟩ ⟨⟨by omega, hev3.wide htop, hmp, hnd, har, psi_next hn30 hps (hev3.wide htop) fun hT => absurd (h50 h272) (by unfold T0 at hT; omega)⟩, hw51, hwh, mI, mA, mT, hs.to⟩ (by show _ - _ < _ - _; omega)
                          | exact X.againD (now + 1, ds, (s3, F44), (os, fs), (FH, FI), (AM, FA), (TM, FT)) rfl ⟨rfl, rfl, rfl, rfl, rfl, rfl, rfl, rfl, rfl, rfl, rfl, rfl, trivial⟩ ⟨⟨by omega, hev3.wide htop, hmp, hnd, har, psi_next hn30 hps (hev3.wide htop) fun hT => by rw [← hss hT]; exact psi_none (by omega) hev3 (hall hT) hLA hA hfu hinc (hno (by omega))⟩, hw44, hwh, mI, mA, mT, hs.to⟩ (by show _ - _ < _ - _; omega)
                      · refine C.skip ?_
                        refine X.next ?_
                        refine C.seq ?_
                        refine C.seq ?_
                        refine C.region ?_
                        refine R.ev rfl (E.move rfl) ?_
                        refine R.ev rfl (E.loadRowC rfl Tryz.underlying45 rfl Tryz.sz45 (by first | exact ⟨hs.ldA, by first | rfl | assumption | exact encV_len _ | exact Enc.len _ | exact len_ub (by assumption)⟩ | exact ⟨hs.ldP rfl, by first | rfl | assumption | exact encV_len _ | exact Enc.len _ | exact len_ub (by assumption)⟩ | exact ⟨hs.ldM rfl rfl, by first | rfl | assumption | exact encV_len _ | exact Enc.len _ | exact len_ub (by assumption)⟩ | exact ⟨hs.ldM (by assumption) (by first | rfl | assumption), by first | rfl | assumption | exact encV_len _ | exact Enc.len _ | exact len_ub (by assumption)⟩ | exact ⟨by assumption, by first | rfl | assumption | exact encV_len _ | exact Enc.len _ | exact len_ub (by assumption)⟩ | exact hs.ldp | exact At.partC (by assumption))) ?_
                        refine R.call ⟨_, _, Tryz.func20, rfl, by kernel_rfl⟩ rfl rfl (answered_any (idq k) (hs.front (F := F48)) (by have := hev3.b.le; rw [hev3.cap] at this; show s3.L.length ≤ _; omega)) ?_
                        rintro _ w56 ⟨rfl, F56, hw56, hs1⟩
                        have hs := hs.back (F := F48) hs1
                        have hul : u + 1 = 1 + laF l k := by omega
                        have htop : topN a now ≤ topN a (now + 1) := by unfold topN; omega
                        have han := hev3.ans hn30 hko hkp (hsub _ me) hku hul
                        have hev5 := han.2.1.wide htop
                        have hmp2 := hmp.answer hn30 hev3.len hkn hku hul
                        have how := owed_set (o := 0) (f := gof (laF l) (paF l)) hku (by rw [Nat.zero_add, gof, hkp, if_pos rfl]; omega)
                        rw [putM_twice] at m526
                        rw [han.1]
                        refine R.ev rfl ((E.neq rfl rfl).isF (by decide)) ?_
                        refine R.done ?_
                        refine X.keep [(0, _), (2, _), (7, _), (9, _), (11, _), (12, _), (13, _), (14, _), (15, _), (16, _), (17, _), (19, _), (27, _), (300, _)] ⟨rfl, rfl, rfl, rfl, rfl, rfl, rfl, rfl, rfl, rfl, rfl, rfl, rfl, rfl, trivial⟩ ?_
                        refine X.next ?_
                        refine C.cfalse rfl ?_
                        refine C.skip ?_
                        refine X.next ?_
                        refine C.region ?_
                        refine R.ev rfl (E.load1 rfl Tryz.underlying39 rfl (by first | exact hs.ldc | exact hs.ld rfl | exact hs.ld (by assumption) | exact by assumption | exact At.cellC (by assumption) | exact hs.ldK rfl)) ?_
                        refine R.ev rfl (E.loadRowC rfl Tryz.underlying45 rfl Tryz.sz45 (by first | exact ⟨hs.ldA, by first | rfl | assumption | exact encV_len _ | exact Enc.len _ | exact len_ub (by assumption)⟩ | exact ⟨hs.ldP rfl, by first | rfl | assumption | exact encV_len _ | exact Enc.len _ | exact len_ub (by assumption)⟩ | exact ⟨hs.ldM rfl rfl, by first | rfl | assumption | exact encV_len _ | exact Enc.len _ | exact len_ub (by assumption)⟩ | exact ⟨hs.ldM (by assumption) (by first | rfl | assumption), by first | rfl | assumption | exact encV_len _ | exact Enc.len _ | exact len_ub (by assumption)⟩ | exact ⟨by assumption, by first | rfl | assumption | exact encV_len _ | exact Enc.len _ | exact len_ub (by assumption)⟩ | exact hs.ldp | exact At.partC (by assumption))) ?_
                        refine R.cput ((idq k)) (true) hs rfl rfl rfl Tryz.underlying39 (by rfl) (by rfl) ?_
                        intro w58_2 F58_2 m58_2 hs
                        refine R.done ?_
                        refine X.keep [(0, _), (2, _), (7, _), (9, _), (11, _), (12, _), (13, _), (14, _), (15, _), (16, _), (17, _), (19, _)] ⟨rfl, rfl, rfl, rfl, rfl, rfl, rfl, rfl, rfl, rfl, rfl, rfl, trivial⟩ ?_
                        refine X.blockNormal ?_
                        refine X.next ?_
                        refine C.region ?_
                        refine R.ev rfl (E.move rfl) ?_
                        refine R.ev rfl (E.add rfl rfl (by omega) (by omega)) ?_
                        refine R.ev rfl (E.assign rfl) ?_
                        refine R.done ?_
                        refine X.keep [(0, _), (2, _), (7, _), (9, _), (11, _), (12, _), (13, _), (14, _), (15, _), (16, _), (17, _), (19, _)] ⟨rfl, rfl, rfl, rfl, rfl, rfl, rfl, rfl, rfl, rfl, rfl, rfl, trivial⟩ ?_
                        have hall : T0 a ≤ now → ∀ k, k < n → k ∈ os := fun hT k hk => (har k hk).2 (by have := hm210 k; unfold T0 at hT; omega)
                        have hss : T0 a ≤ now → s2 = s := fun hT => hsame (by unfold T0 at hT; omega)
                        have htop : topN a now ≤ topN a (now + 1) := by unfold topN; omega
                        have htop5 : T0 a ≤ now → topN a (now + 1) ≤ ((now : Nat) : Int) + 5 := fun hT => by unfold topN; unfold T0 at hT; omega
                        first
                          | exact X.againD (now + 1, ds, (_, F54), (os, fs.set k (u + 1)), (FH, FI), (AM, FA), (_, F526)) rfl ⟨rfl, rfl, rfl, rfl, rfl, rfl, rfl, rfl, rfl, rfl, rfl, rfl, trivial⟩ ⟨⟨by omega, hlt.2.1, hmp2, hnd, har, psi_next hn30 hps hlt.2.1 fun hT => by rw [← hss hT]; exact psi_some hlt.2.1 (htop5 hT) (Nat.le_of_eq how) (by obtain ⟨t, ht⟩ := hlt.2.2; rw [ht]; exact hinc)⟩, hw54, hwh, mI, mA, m526, hs.to⟩ (by show _ - _ < _ - _; omega)
                          | exact X.againD (now + 1, ds, (_, F56), (os, fs.set k (u + 1)), (FH, FI), (_, F58_2), (_, F526)) rfl ⟨rfl, rfl, rfl, rfl, rfl, rfl, rfl, rfl, rfl, rfl, rfl, rfl, trivial⟩ ⟨⟨by omega, hev5, hmp2, hnd, har, psi_next hn30 hps hev5 fun hT => by rw [← hss hT]; exact psi_some hev5 (htop5 hT) (Nat.le_of_eq how) (by rw [han.2.2]; exact hinc)⟩, hw56, hwh, mI, m58_2, m526, hs.to⟩ (by show _ - _ < _ - _; omega)
                          | exact X.againD (now + 1, ds, (s3, F51), (os, fs), (FH, FI), (AM, FA), (TM, FT)) rfl ⟨rfl, rfl, rfl, rfl, rfl, rfl, rfl, rfl, rfl, rfl, rfl, rfl, trivial⟩ ⟨⟨by omega, hev3.wide htop, hmp, hnd, har, psi_next hn30 hps (hev3.wide htop) fun hT => absurd (h50 h272) (by unfold T0 at hT; omega)⟩, hw51, hwh, mI, mA, mT, hs.to⟩ (by show _ - _ < _ - _; omega)
                          | exact X.againD (now + 1, ds, (s3, F44), (os, fs), (FH, FI), (AM, FA), (TM, FT)) rfl ⟨rfl, rfl, rfl, rfl, rfl, rfl, rfl, rfl, rfl, rfl, rfl, rfl, trivial⟩ ⟨⟨by omega, hev3.wide htop, hmp, hnd, har, psi_next hn30 hps (hev3.wide htop) fun hT => by rw [← hss hT]; exact psi_none (by omega) hev3 (hall hT) hLA hA hfu hinc (hno (by omega))⟩, hw44, hwh, mI, mA, mT, hs.to⟩ (by show _ - _ < _ - _; omega)
      · refine C.exit ?_
        refine X.thenExit ?_
        refine X.loopDExit ?_
        refine X.blockExit ?_
        refine X.next ?_
        refine C.seq ?_
        refine C.seq ?_
        refine C.region ?_
        obtain rfl : now = a + 1200 := by omega
        have hall : ∀ k, k < n → k ∈ os := fun k hk => (har k hk).2 (by have := hm210 k; omega)
        obtain ⟨hL0, hi0, hfin⟩ := psi_end (now := ((a + 1200 : Nat) : Int)) hev hall (by have h := hps (by unfold T0; omega); unfold T0 at h; omega)
        refine R.ev rfl (E.assign rfl) ?_
        refine R.done ?_
        refine X.keep [(0, _), (9, _), (14, _), (29, _)] ⟨rfl, rfl, rfl, rfl, trivial⟩ ?_
        refine X.next ?_
        refine C.block ?_
        refine C.loop (T := Nat) [(0, _), (9, _), (14, _)] (fun i => [(29, .int .i64 (i : Nat))]) (fun i w' => i ≤ n ∧ Sat K4 w' (dfsP ds :: FB :: FH :: FI :: FA :: FT :: FM :: row b7 26 [ptr f] :: row b13 38 [v73] :: row b14 39 [v74] :: [])) (fun i => n - i) (0) ⟨rfl, rfl, rfl, rfl, trivial⟩ ⟨Nat.zero_le _, hs⟩ ?_
        rintro i w6 ⟨hi, hs⟩
        refine C.keep [(0, _), (9, _), (14, _), (29, _)] ⟨rfl, rfl, rfl, rfl, trivial⟩ ?_
        refine C.seq ?_
        refine C.seq ?_
        refine C.region ?_
        refine R.ev rfl (E.move rfl) ?_
        refine R.ev rfl (E.move rfl) ?_
        refine R.ev rfl (E.lenSl rfl Tryz.underlying22) ?_
        refine R.ev rfl (E.lss rfl rfl) ?_
        refine R.done ?_
        refine X.keep [(0, _), (9, _), (14, _), (29, _), (306, _)] ⟨rfl, rfl, rfl, rfl, rfl, trivial⟩ ?_
        refine X.next ?_
        refine C.cdec rfl (fun h306 => ?_) (fun h306 => ?_)
        · obtain ⟨y, bk_y, of_y, hy, my, ly, rfl, Ay⟩ := hs.el (i := i) (ad := ad) (n := n) (c := cp) (by omega)
          have ay := Ay _ hs
          have hy0 : l.getD i default = y := getD_of hy
          have hyg := y.g.toNat_lt
          have hp : paF l i = (!y.snd && decide (y.g.toNat % 3 ≠ 2)) := by rw [paF, sndF, grpF, hy0]
          have hAi : (lkM AM (idq i)).getD false = paF l i := by
            rw [hmp.a i (by omega), getD_of (hfin i (by omega)), gof]
            cases paF l i <;> first | (simp; done) | (simp; omega)
          refine C.skip ?_
          refine X.next ?_
          refine C.seq ?_
          refine C.block ?_
          refine C.seq ?_
          refine C.cut [(0, _), (9, _), (14, _), (29, _)] (fun (() : Unit) => [(30, .bool (paF l i))]) (fun _ w' => Sat K4 w' (dfsP ds :: FB :: FH :: FI :: FA :: FT :: FM :: row b7 26 [ptr f] :: row b13 38 [v73] :: row b14 39 [v74] :: [])) ⟨rfl, rfl, rfl, rfl, trivial⟩ ?_ ?_
          · refine C.region ?_
            refine R.ev rfl (E.move rfl) ?_
            refine R.ev rfl (E.move rfl) ?_
            refine R.ev rfl (E.indexAddr rfl rfl Tryz.underlying22 Tryz.sz43 rfl (by first | omega | decide)) ?_
            first | refine R.ev rfl (E.fieldAddr0 3 rfl Tryz.underlying43 rfl Tryz.sz4 rfl) ?_ | refine R.ev rfl (E.fieldAddrN 3 rfl Tryz.underlying43 rfl Tryz.sz4 rfl) ?_
            refine R.ev rfl (E.load1 rfl Tryz.underlying4 rfl (by first | exact hs.ldc | exact hs.ld rfl | exact hs.ld (by assumption) | exact by assumption | exact At.cellC (by assumption) | exact hs.ldK rfl)) ?_
            refine R.ev rfl (E.not rfl) ?_
            refine R.ev rfl (E.move rfl) ?_
            refine R.split 315 rfl (fun h315 => ?_) (fun h315 => ?_)
            · refine R.gyes rfl rfl ?_
              refine R.ev rfl (E.move rfl) ?_
              refine R.gyes rfl rfl ?_
              refine R.ev rfl (E.move rfl) ?_
              refine R.gyes rfl rfl ?_
              refine R.ev rfl (E.indexAddr rfl rfl Tryz.underlying22 Tryz.sz43 rfl (by first | omega | decide)) ?_
              refine R.gyes rfl rfl ?_
              first | refine R.ev rfl (E.fieldAddr0 0 rfl Tryz.underlying43 rfl Tryz.sz5 rfl) ?_ | refine R.ev rfl (E.fieldAddrN 0 rfl Tryz.underlying43 rfl Tryz.sz5 rfl) ?_
              refine R.gyes rfl rfl ?_
              refine R.ev rfl (E.load1 rfl Tryz.underlying5 rfl (by first | exact hs.ldc | exact hs.ld rfl | exact hs.ld (by assumption) | exact by assumption | exact At.cellC (by assumption) | exact hs.ldK rfl)) ?_
              refine R.gyes rfl rfl ?_
              refine R.ev rfl ((E.rem rfl rfl (by decide) (by omega)).isI (c := ((y.g.toNat % 3 : Nat) : Int)) (by omega)) ?_
              refine R.gyes rfl rfl ?_
              refine R.ev rfl (E.neq rfl rfl) ?_
              refine R.ev rfl (E.pickT rfl rfl) ?_
              refine R.ev rfl (E.assign rfl) ?_
              refine R.done ?_
              refine X.keep [(0, _), (9, _), (14, _), (29, _), (30, _)] ⟨rfl, rfl, rfl, rfl, rfl, trivial⟩ ?_
              refine X.cut (()) ⟨lkV rfl ?_, rfl, rfl, rfl, rfl, trivial⟩ ?_
              · first
                  | (rw [hp, h315, Bool.true_and]; congr 1; rw [decide_eq_decide]; omega)
                  | (rw [hp, h315]; rfl)
              · exact hs.to
            · refine R.gskip rfl rfl rfl ?_
              refine R.gskip rfl rfl rfl ?_
              refine R.gskip rfl rfl rfl ?_
              refine R.gskip rfl rfl rfl ?_
              refine R.gskip rfl rfl rfl ?_
              refine R.gskip rfl rfl rfl ?_
              refine R.gskip rfl rfl rfl ?_
              refine R.ev rfl (E.pickF rfl rfl) ?_
              refine R.ev rfl (E.assign rfl) ?_
              refine R.done ?_
              refine X.keep [(0, _), (9, _), (14, _), (29, _), (30, _)] ⟨rfl, rfl, rfl, rfl, rfl, trivial⟩ ?_
              refine X.cut (()) ⟨lkV rfl ?_, rfl, rfl, rfl, rfl, trivial⟩ ?_
              · first
                  | (rw [hp, h315, Bool.true_and]; congr 1; rw [decide_eq_decide]; omega)
                  | (rw [hp, h315]; rfl)
              · exact hs.to
          · rintro _ w62 hs
            refine X.keep [(0, _), (9, _), (14, _), (29, _), (30, _)] ⟨rfl, rfl, rfl, rfl, rfl, trivial⟩ ?_
            refine X.next ?_
            refine C.seq ?_
            refine C.region ?_
            refine R.ev rfl (E.load1 rfl Tryz.underlying39 rfl (by first | exact hs.ldc | exact hs.ld rfl | exact hs.ld (by assumption) | exact by assumption | exact At.cellC (by assumption) | exact hs.ldK rfl)) ?_
            refine R.ev rfl (E.move rfl) ?_
            refine R.ev rfl ((E.sub rfl rfl (by omega) (by omega)).isI (c := ((40 - i : Nat) : Int)) (by omega)) ?_
            refine R.ev rfl ((E.conv rfl Tryz.underlying3 Tryz.underlying5).as (u := ub (UInt8.ofNat (40 - i))) (wrap_ub _)) ?_
            refine R.ev rfl ((E.buildA rfl Tryz.underlying45 Tryz.zr45 Tryz.sz5 rfl).as (u := .agg (encV (idq i)).toArray) (by rfl)) ?_
            refine R.ev rfl ((E.lookupD hs rfl rfl Tryz.underlying39 (idq i) (by rfl)).isB (c := paF l i) hAi) ?_
            refine R.ev rfl (E.move rfl) ?_
            refine R.ev rfl ((E.neqB rfl rfl Tryz.underlying4).isB (c := false) (by simp)) ?_
            refine R.done ?_
            refine X.keep [(0, _), (9, _), (14, _), (29, _), (331, _)] ⟨rfl, rfl, rfl, rfl, rfl, trivial⟩ ?_
            refine X.next ?_
            refine C.cfalse rfl ?_
            refine C.skip ?_
            refine X.blockNormal ?_
            refine X.next ?_
            refine C.region ?_
            refine R.ev rfl (E.move rfl) ?_
            refine R.ev rfl (E.add rfl rfl (by omega) (by omega)) ?_
            refine R.ev rfl (E.assign rfl) ?_
            refine R.done ?_
            refine X.keep [(0, _), (9, _), (14, _), (29, _)] ⟨rfl, rfl, rfl, rfl, trivial⟩ ?_
            exact X.again (i + 1) ⟨rfl, rfl, rfl, rfl, trivial⟩ ⟨by omega, hs.to⟩ (by show _ - _ < _ - _; omega)
        · refine C.exit ?_
          refine X.thenExit ?_
          refine X.loopExit ?_
          refine X.blockExit ?_
          refine X.next ?_
          refine C.seq ?_
          refine C.region ?_
          refine R.ev rfl (E.move rfl) ?_
          refine R.call ⟨_, _, Tryz.func21, rfl, by kernel_rfl⟩ rfl rfl (len_any hs) ?_
          rintro _ w65 ⟨rfl, hs⟩
          rw [hL0]
          refine R.ev rfl ((E.eql rfl rfl).isT (by decide)) ?_
          refine R.ev rfl (E.move rfl) ?_
          refine R.gyes rfl rfl ?_
          refine R.ev rfl (E.move rfl) ?_
          refine R.gyes rfl rfl ?_
          refine R.call ⟨_, _, Tryz.func12, rfl, by kernel_rfl⟩ rfl rfl (missed_any hs) ?_
          rintro _ w66 ⟨rfl, hs⟩
          rw [hi0]
          refine R.gyes rfl rfl ?_
          refine R.ev rfl (E.notF rfl) ?_
          refine R.ev rfl (E.pickT rfl rfl) ?_
          refine R.ev rfl (E.assign rfl) ?_
          refine R.done ?_
          refine X.keep [(6, _)] ⟨rfl, trivial⟩ ?_
          refine X.next ?_
          refine C.ret ?_
          refine X.markAll hs fun wm hs => ?_
          refine X.ret1 rfl rfl ?_
          exact ⟨rfl, (hs.less hK.le).mod⟩

namespace everyArticleIsOffered
open Go.ChangeShapes Go.WideShapes Go.ChangeAt Go.RowKit
open Go.ChangeMaps (open_string shut_string)
set_option linter.unusedVariables false

theorem own : ownKnob Tryz.prog.godebug = none := by kernel_rfl
theorem laidOut : laidOutB Tryz.prog = true := by kernel_rfl
set_option maxRecDepth 100000 in
theorem lifted (os : Os) (started : os.Started) (H : Type) (enc : TypeId × Value → H) :
    ReturnsInHanded {} Tryz.checked os 3 .any (fun w args => (Rows.everyArticleIsOfferedSpec.pre enc Tryz.prog Tryz.f3 [] false w args ∧ laidMetH Tryz.prog Rows.everyArticleIsOfferedRow.laid w) ∧ sizedMet enc Tryz.prog Tryz.f3 (OpenSpec.ofChange Rows.everyArticleIsOfferedSpec) false w args)
      (Rows.everyArticleIsOfferedSpec.post enc Tryz.prog Tryz.f3 false true false false) := by
  refine returnsInHanded_of_change_and (C := Tryz.checked) (X := fun w _ => laidMetH Tryz.prog Rows.everyArticleIsOfferedRow.laid w) (fun _ _ _ hh h => h.of_heap hh) own started (by kernel_rfl) Tryz.func3
    (ChangeSpec.witness_shaped (enc := enc) (C := Tryz.checked) (os := os) (X := fun w _ => laidMetH Tryz.prog Rows.everyArticleIsOfferedRow.laid w) false (World.laidAll Tryz.prog os Rows.everyArticleIsOfferedRow.laid) #[.slice none 0 0, .agg #[.int .u8 0, .int .u8 0], .int .u64 0] 8 (World.laidAll_os _ _ _) (World.shaped_of_ZipB (by kernel_rfl) (by kernel_rfl)) (by kernel_rfl) (by kernel_rfl) (by kernel_rfl) (by rw [MakeChecks.laidMetH_plain _ _ _ (by kernel_rfl)]; exact laidMet_laidAll _ (by kernel_rfl) (by kernel_rfl))) ?_
  intro W base args ds gs before hval0 hW _ _ hL _
  have hval : ∀ (j : Nat) t v, Tryz.f3.params[j]? = some t → args[j]? = some v → Value.okWide Tryz.prog W .any base t v := hval0
  have hW' := hW
  obtain ⟨p, q, hA0, hV, rfl, hfz, hnd⟩ := hW
  have hA : DataW.TrodAll enc Tryz.prog W 0 (fun _ => true) true Tryz.f3.params.toList args.toList ds p := hA0
  rw [Tryz.params3] at hA hval
  obtain ⟨v0, vs0, d0, ds0, p0, q0, hargs, rfl, rfl, h0, r0⟩ := trodAll_cons hA
  obtain ⟨v1, vs1, d1, ds1, p1, q1, rfl, rfl, rfl, h1, r1⟩ := trodAll_cons r0
  obtain ⟨v2, vs2, d2, ds2, p2, q2, rfl, rfl, rfl, h2, r2⟩ := trodAll_cons r1
  obtain ⟨rfl, rfl, rfl⟩ := trodAll_nil r2
  obtain rfl : args = #[v0, v1, v2] := by cases args; simp_all
  obtain ⟨rfl, rfl⟩ := trodVars_none hV
  have lt0 : ∀ x ∈ p0, x.block < W.heap.size := by obtain ⟨m, hm⟩ := h0; exact DataW.trod_lt m _ _ _ hm
  have a0 := Eng.argv_of (hval 0 22 v0 rfl rfl) h0
  have lt1 : ∀ x ∈ p1, x.block < W.heap.size := by obtain ⟨m, hm⟩ := h1; exact DataW.trod_lt m _ _ _ hm
  have a1 := Eng.argv_of (hval 1 23 v1 rfl rfl) h1
  have lt2 : ∀ x ∈ p2, x.block < W.heap.size := by obtain ⟨m, hm⟩ := h2; exact DataW.trod_lt m _ _ _ hm
  have a2 := Eng.argv_of (hval 2 24 v2 rfl rfl) h2
  clear hA0 hval0
  refine Calls.mono (every_walk W (laid_no hL) v0 a0 v1 a1 v2 a2) fun e W' ⟨v, he, hv, hm⟩ => ?_
  subst he
  subst hv
  have bel := hm.below
  exact ⟨_, rfl, _, _, _, [], _, [], hW', trodAll_mk1 (shut_bool Tryz.underlying4 _), (trodAll_cons_mk (Below.trod laidOut (by kernel_rfl) (of_decide_eq_true (by kernel_rfl)) h0 bel lt0) (trodAll_cons_mk (Below.trod laidOut (by kernel_rfl) (of_decide_eq_true (by kernel_rfl)) h1 bel lt1) (trodAll_cons_mk (Below.trod laidOut (by kernel_rfl) (of_decide_eq_true (by kernel_rfl)) h2 bel lt2) trodAll_mk0))), rfl, bel.frame _, fun h => by cases h⟩

theorem over : Rows.everyArticleIsOfferedRow.holds Tryz.pinned (OpenSpec.ofChange Rows.everyArticleIsOfferedSpec) :=
  OpenClaim.holds_of_wide 3 Tryz.f3 rfl rfl rfl rfl rfl rfl rfl ⟨rfl, rfl, rfl, rfl, rfl⟩ rfl rfl rfl rfl rfl (by kernel_rfl) Tryz.func3 (by kernel_rfl)
    (of_decide_eq_true (by kernel_rfl)) (by unfold Func.isWrapper; first | (rw [if_pos (by decide +kernel)]; kernel_rfl) | (rw [if_neg (by decide +kernel)]; exact ⟨rfl, rfl⟩))
    (fun os started H enc _ => lifted os started H enc)
end everyArticleIsOffered
/-- the statement: the tied card -/
theorem everyArticleIsOffered_holds : Rows.EveryArticleIsOfferedCardSaid :=
  Claim7.holds_tied_plain_at .later [] [.data, .pinned] true (true, "02a4193d3383f90bdcde5d5f20c568ee5e911d052e8c41d1d01ddd9194264297") true
    everyArticleIsOffered.over (fun _ h => by cases h) (by kernel_rfl) (fun _ h => by cases h) everyArticleIsOffered_row_tie rfl ⟨rfl, rfl⟩ (by kernel_rfl) rfl
    (fun f fn hf hfn => by
      obtain rfl : f = 3 := Option.some.inj ((show Tryz.prog.funcNamed "bulletin/bulletintop.EveryArticleIsOffered" = some 3 by kernel_rfl).symm.trans hf) |>.symm
      obtain rfl : fn = Tryz.f3 := (Option.some.inj (Tryz.func3.symm.trans hfn)).symm
      exact ⟨by kernel_rfl, fun j t ht => by
        rw [Tryz.params3] at ht
        have ht := List.mem_of_getElem? (by simpa using ht)
        have key : ∀ t ∈ ([22, 23, 24] : List TypeId), Tryz.prog.wantsStandIn t = false := by
          intro t ht
          simp only [List.mem_cons, List.not_mem_nil, or_false] at ht
          rcases ht with rfl | rfl | rfl <;> kernel_rfl
        exact key t (by simpa using ht)⟩)
    (by kernel_rfl)
#print axioms everyArticleIsOffered_holds
end Go.Proofs.YtifghjeapfijkaaGreatDoor
