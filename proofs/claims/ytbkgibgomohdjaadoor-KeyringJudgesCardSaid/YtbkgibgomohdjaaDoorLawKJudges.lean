/-
  KeyringJudges returns true for every list of roll-overs, every place and every number: Judge agrees with the reference. No condition but the listed table (tied to the program's text).
-/
import Derived.Test.YtbkgibgomohdjaaDoorKrL
import Derived.Test.YtbkgibgomohdjaaDoorEngNet
namespace Go.Proofs.YtbkgibgomohdjaaDoor
open Go.Eng Go.RowKit Go.Sort
theorem encP_seth (q : PK) (i : Int) : (encP q).set 0 (.int .i64 i) = encP ⟨i, q.r⟩ := rfl
theorem list5 {l : List UInt8} (h : l.length = 5) : ∃ a b c d e, l = [a, b, c, d, e] := by
  match l, h with
  | [a, b, c, d, e], _ => exact ⟨a, b, c, d, e, rfl⟩
theorem kjudges_walk (w : World) (hkc : HasKc (Kn.of w)) (v1 : Value) (a1 : ArgV Tryd.prog w 22 v1) (v2 : Value) (a2 : ArgV Tryd.prog w 23 v2) (v3 : Value) (a3 : ArgV Tryd.prog w 3 v3) : Ret Tryd.prog 3 #[v1, v2, v3] w fun r w' => r = .bool true ∧ Mod [] w w' := by
  obtain ⟨ad, cap, ms, rfl, hc1, _, hr1⟩ := argv_mvs a1
  obtain ⟨pl, rfl⟩ := argv_vec a2 Tryd.underlying23 Tryd.underlying5 (by kernel_rfl) (by kernel_rfl)
  obtain ⟨n, rfl, _⟩ := argv_int a3 Tryd.underlying3
  obtain ⟨p0, p1, p2, p3, p4, hpl⟩ := list5 pl.2
  rw [hpl]
  have hs := Sat.start w
  obtain ⟨a, ha⟩ : ∃ a, a = ofP (pubk p0.toNat) := ⟨_, rfl⟩
  have q2 := encV_len a
  have q3 := encP_len (pubk p1.toNat)
  have q1 : ((idn (p2.toNat % 16)).1.map ub).length = 32 := encV_len _
  refine Ret.enter (n := 63) (args := [.slice ad ms.length cap, idV [p0, p1, p2, p3, p4], .int .i64 n]) Tryd.func3 rfl rfl ?_
  refine C.keep [(0, _), (1, _), (2, _)] ⟨rfl, rfl, rfl, trivial⟩ ?_
  refine C.seq ?_
  refine C.region ?_
  refine R.sboxA hs rfl rfl ?_
  intro b4 w4 hs
  refine R.ev rfl (E.assign rfl) ?_
  refine R.done ?_
  refine X.keep [(0, _), (2, _), (4, _)] ⟨rfl, rfl, rfl, trivial⟩ ?_
  refine X.next ?_
  refine C.seq ?_
  refine C.seq ?_
  refine C.region ?_
  refine R.call ⟨_, _, Tryd.func11, rfl, by kernel_rfl⟩ rfl rfl (known_any hs) ?_
  rintro _ w1 ⟨rfl, hs⟩
  refine R.ev rfl (E.notT rfl) ?_
  refine R.done ?_
  refine X.keep [(0, _), (2, _), (4, _), (15, _)] ⟨rfl, rfl, rfl, rfl, trivial⟩ ?_
  refine X.next ?_
  refine C.cfalse rfl ?_
  refine C.skip ?_
  refine X.next ?_
  refine C.seq ?_
  refine C.region ?_
  refine R.ev rfl (E.move rfl) ?_
  refine R.call ⟨_, _, Tryd.func12, rfl, by kernel_rfl⟩ rfl rfl (build_any (ms := ms) (n := 20) (by decide) hs) ?_
  rintro _ w3 ⟨p, K2, v8, MK, MR, F, rfl, hk2, hr8, hI, hw, hs⟩
  have hbl : (bld (ms.take 20)).length ≤ 20 := by have := bld_len (ms.take 20); rw [List.length_take] at this; omega
  have o8 : OneC v8 := ⟨KRow.oneC' hr8⟩
  have hlo := hI.ok
  generalize bld (ms.take 20) = L at hr8 hI hbl hlo
  refine R.ev rfl (E.move rfl) ?_
  refine R.ev rfl (E.extract rfl rfl) ?_
  refine R.ev rfl (E.extract rfl rfl) ?_
  refine R.ev rfl (E.extract rfl rfl) ?_
  refine R.ev rfl (E.assign rfl) ?_
  refine R.ev rfl (E.assign rfl) ?_
  refine R.ev rfl (E.assign rfl) ?_
  refine R.done ?_
  refine X.keep [(2, _), (4, _), (7, _), (8, _)] ⟨rfl, rfl, rfl, rfl, trivial⟩ ?_
  refine X.next ?_
  refine C.seq ?_
  refine C.drawn (SatS hs) ([1, 5, 8], [0, 4, 7, 9, 10]) (by kernel_rfl) ?_
  have hs := hs.drew
  refine D.evP 0 rfl (by kernel_rfl) rfl (fun _ => hs.to) (fun _ => E.indexAddrA0 0 0 rfl rfl Tryd.underlying23 Tryd.sz5 rfl rfl) ?_
  refine D.evP 4 rfl (by kernel_rfl) rfl (fun _ => hs.to) (fun _ => E.indexAddrA0 1 1 rfl rfl Tryd.underlying23 Tryd.sz5 rfl rfl) ?_
  refine D.evP 7 rfl (by kernel_rfl) rfl (fun _ => hs.to) (fun _ => E.indexAddrA0 2 2 rfl rfl Tryd.underlying23 Tryd.sz5 rfl rfl) ?_
  refine D.ev 1 rfl (by kernel_rfl) rfl hs.to (fun _ hS => E.load1 rfl Tryd.underlying5 rfl (by first | exact hS.ldc | exact hS.ld rfl | exact hS.ld (by assumption) | exact by assumption | exact At.cellC (by assumption) | exact At.cellC ((by assumption : ∀ w', Sat _ w' _ → At w' _ _ _) _ hS) | exact (by assumption : ∀ w', Sat _ w' _ → World.cell? w' _ = some _) _ hS)) ?_
  refine D.ev 5 rfl (by kernel_rfl) rfl hs.to (fun _ hS => E.load1 rfl Tryd.underlying5 rfl (by first | exact hS.ldc | exact hS.ld rfl | exact hS.ld (by assumption) | exact by assumption | exact At.cellC (by assumption) | exact At.cellC ((by assumption : ∀ w', Sat _ w' _ → At w' _ _ _) _ hS) | exact (by assumption : ∀ w', Sat _ w' _ → World.cell? w' _ = some _) _ hS)) ?_
  refine D.ev 8 rfl (by kernel_rfl) rfl hs.to (fun _ hS => E.load1 rfl Tryd.underlying5 rfl (by first | exact hS.ldc | exact hS.ld rfl | exact hS.ld (by assumption) | exact by assumption | exact At.cellC (by assumption) | exact At.cellC ((by assumption : ∀ w', Sat _ w' _ → At w' _ _ _) _ hS) | exact (by assumption : ∀ w', Sat _ w' _ → World.cell? w' _ = some _) _ hS)) ?_
  refine D.evP 9 rfl (by kernel_rfl) rfl (fun _ => hs.to) (fun _ => (E.rem rfl rfl (by decide) (by omega)).as (u := ub (UInt8.ofNat (p2.toNat % 16))) (rem_ub (by decide))) ?_
  refine D.evP 10 rfl (by kernel_rfl) rfl (fun _ => hs.to) (fun _ => (E.buildOne (i := 31) rfl Tryd.underlying34 Tryd.zr34 Tryd.sz5 (by decide) rfl).as (u := .agg ((idn (p2.toNat % 16)).1.map ub).toArray) rfl) ?_
  refine D.net fun DD hDD hDD2 => ?_
  have key_2_3_6_11_12_13 : ∀ (b10 b11 b12 : Nat) (w0 : World), Sat K2 w0 (row b10 29 (kvz16.1.map ub) :: row b11 32 (encP pz) :: row b12 34 (kvz.1.map ub) :: F :: row b4 23 ([p0, p1, p2, p3, p4].map ub) :: []) → DD [0, 1, 2, 3, 4, 5, 6, 7, 8, 9, 10, 11, 12, 13] [(2, .int .i64 n), (4, ptr b4), (7, ptr p), (8, v8), (10, ptr b10), (11, ptr b11), (12, ptr b12), (25, idV a.1), (28, .agg (encP (pubk p1.toNat)).toArray), (32, idV (idn (p2.toNat % 16)).1)] w0 := by
    intro b10 b11 b12 w0 hs
    refine hDD _ _ _ ?_
    refine D.act 14 rfl (by kernel_rfl) ?_
    first | refine R.cstoreAll hs rfl rfl Tryd.sz29 (by first | rfl | assumption | exact encV_len _ | exact Enc.len _ | exact len_ub (by assumption) | simp [*]) (by first | rfl | assumption | exact encV_len _ | exact Enc.len _ | exact len_ub (by assumption) | simp [*]) (by first | assumption | exact OneL.all | exact Enc.one _ | exact ub_all _ | (repeat' (first | refine List.forall_mem_cons.2 ⟨?_, ?_⟩ | exact List.forall_mem_nil _ | rfl | exact OneC.one | exact KRow.oneC' (by assumption)))) ?_ | refine R.cstore hs rfl rfl Tryd.sz29 (by first | rfl | assumption | exact encV_len _ | exact Enc.len _ | exact len_ub (by assumption) | simp [*]) (by simp [*]) (by first | assumption | exact OneL.all | exact Enc.one _ | exact ub_all _ | (repeat' (first | refine List.forall_mem_cons.2 ⟨?_, ?_⟩ | exact List.forall_mem_nil _ | rfl | exact OneC.one | exact KRow.oneC' (by assumption)))) ?_
    intro w4_14 hs
    try simp only [List.set_cons_zero, List.set_cons_succ] at hs
    refine D.back hs.to ?_
    refine D.act 15 rfl (by kernel_rfl) ?_
    first | refine R.cstoreAll hs rfl rfl Tryd.sz32 (by first | rfl | assumption | exact encV_len _ | exact Enc.len _ | exact len_ub (by assumption) | simp [*]) (by first | rfl | assumption | exact encV_len _ | exact Enc.len _ | exact len_ub (by assumption) | simp [*]) (by first | assumption | exact OneL.all | exact Enc.one _ | exact ub_all _ | (repeat' (first | refine List.forall_mem_cons.2 ⟨?_, ?_⟩ | exact List.forall_mem_nil _ | rfl | exact OneC.one | exact KRow.oneC' (by assumption)))) ?_ | refine R.cstore hs rfl rfl Tryd.sz32 (by first | rfl | assumption | exact encV_len _ | exact Enc.len _ | exact len_ub (by assumption) | simp [*]) (by simp [*]) (by first | assumption | exact OneL.all | exact Enc.one _ | exact ub_all _ | (repeat' (first | refine List.forall_mem_cons.2 ⟨?_, ?_⟩ | exact List.forall_mem_nil _ | rfl | exact OneC.one | exact KRow.oneC' (by assumption)))) ?_
    intro w4_15 hs
    try simp only [List.set_cons_zero, List.set_cons_succ] at hs
    refine D.back hs.to ?_
    refine D.act 16 rfl (by kernel_rfl) ?_
    first | refine R.cstoreAll hs rfl rfl Tryd.sz34 (by first | rfl | assumption | exact encV_len _ | exact Enc.len _ | exact len_ub (by assumption) | simp [*]) (by first | rfl | assumption | exact encV_len _ | exact Enc.len _ | exact len_ub (by assumption) | simp [*]) (by first | assumption | exact OneL.all | exact Enc.one _ | exact ub_all _ | (repeat' (first | refine List.forall_mem_cons.2 ⟨?_, ?_⟩ | exact List.forall_mem_nil _ | rfl | exact OneC.one | exact KRow.oneC' (by assumption)))) ?_ | refine R.cstore hs rfl rfl Tryd.sz34 (by first | rfl | assumption | exact encV_len _ | exact Enc.len _ | exact len_ub (by assumption) | simp [*]) (by simp [*]) (by first | assumption | exact OneL.all | exact Enc.one _ | exact ub_all _ | (repeat' (first | refine List.forall_mem_cons.2 ⟨?_, ?_⟩ | exact List.forall_mem_nil _ | rfl | exact OneC.one | exact KRow.oneC' (by assumption)))) ?_
    intro w4_16 hs
    try simp only [List.set_cons_zero, List.set_cons_succ] at hs
    refine D.backT (by kernel_rfl) ?_
    refine D.done rfl (by kernel_rfl) ?_
    refine X.keep [(2, _), (4, _), (7, _), (8, _), (10, _), (11, _), (12, _)] ⟨rfl, rfl, rfl, rfl, rfl, rfl, rfl, trivial⟩ ?_
    refine X.next ?_
    refine C.seq ?_
    refine C.seq ?_
    refine C.region ?_
    refine R.ev rfl (E.indexAddrA0 4 4 rfl rfl Tryd.underlying23 Tryd.sz5 rfl rfl) ?_
    refine R.ev rfl (E.load1 rfl Tryd.underlying5 rfl (by first | exact hs.ldc | exact hs.ld rfl | exact hs.ld (by assumption) | exact by assumption | exact At.cellC (by assumption))) ?_
    refine R.ev rfl (E.rem rfl rfl (by omega) (by omega)) ?_
    refine R.ev rfl (E.eql rfl rfl) ?_
    refine R.done ?_
    refine X.keep [(2, _), (4, _), (7, _), (8, _), (10, _), (11, _), (12, _), (36, _)] ⟨rfl, rfl, rfl, rfl, rfl, rfl, rfl, rfl, trivial⟩ ?_
    refine X.next ?_
    refine C.cut [(2, _), (4, _), (7, _), (8, _), (10, _), (11, _), (12, _)] (fun (q : PK) => []) (fun q w' => Sat K2 w' (row b12 34 ((idn (p2.toNat % 16)).1.map ub) :: row b11 32 (encP q) :: row b10 29 (a.1.map ub) :: F :: row b4 23 ([p0, p1, p2, p3, p4].map ub) :: [])) ⟨rfl, rfl, rfl, rfl, rfl, rfl, rfl, trivial⟩ ?_ ?_
    · refine C.cdec rfl (fun h36 => ?_) (fun h36 => ?_)
      · refine C.region ?_
        refine R.ev rfl (E.indexAddrA0 3 3 rfl rfl Tryd.underlying23 Tryd.sz5 rfl rfl) ?_
        refine R.ev rfl (E.load1 rfl Tryd.underlying5 rfl (by first | exact hs.ldc | exact hs.ld rfl | exact hs.ld (by assumption) | exact by assumption | exact At.cellC (by assumption))) ?_
        refine R.ev rfl ((E.conv rfl Tryd.underlying5 Tryd.underlying3).isI (c := (p3.toNat : Int)) (conv_u8 p3)) ?_
        refine R.ev rfl (E.rem rfl rfl (by decide) (by omega)) ?_
        first | refine R.ev rfl (E.fieldAddr0 0 rfl Tryd.underlying32 rfl Tryd.sz3 rfl) ?_ | refine R.ev rfl (E.fieldAddrN 0 rfl Tryd.underlying32 rfl Tryd.sz3 rfl) ?_
        refine R.cstore1 (b := b11) hs rfl rfl Tryd.sz3 (by rw [encP_len]; decide) rfl ?_
        intro w65 hs
        rw [encP_seth] at hs
        refine R.done ?_
        refine X.keep [(2, _), (4, _), (7, _), (8, _), (10, _), (11, _), (12, _)] ⟨rfl, rfl, rfl, rfl, rfl, rfl, rfl, trivial⟩ ?_
        first
          | exact X.cut (⟨(p3.toNat : Int) % 12, (pubk p1.toNat).r⟩) ⟨rfl, rfl, rfl, rfl, rfl, rfl, rfl, trivial⟩ hs.to
          | exact X.cut (pubk p1.toNat) ⟨rfl, rfl, rfl, rfl, rfl, rfl, rfl, trivial⟩ hs.to
      · refine C.skip ?_
        first
          | exact X.cut (⟨(p3.toNat : Int) % 12, (pubk p1.toNat).r⟩) ⟨rfl, rfl, rfl, rfl, rfl, rfl, rfl, trivial⟩ hs.to
          | exact X.cut (pubk p1.toNat) ⟨rfl, rfl, rfl, rfl, rfl, rfl, rfl, trivial⟩ hs.to
    · rintro q w5 hs; have q5 := encP_len q
      refine X.keep [(2, _), (4, _), (7, _), (8, _), (10, _), (11, _), (12, _)] ⟨rfl, rfl, rfl, rfl, rfl, rfl, rfl, trivial⟩ ?_
      refine X.next ?_
      refine C.seq ?_
      refine C.region ?_
      refine R.ev rfl (E.indexAddrA0 3 3 rfl rfl Tryd.underlying23 Tryd.sz5 rfl rfl) ?_
      refine R.ev rfl (E.load1 rfl Tryd.underlying5 rfl (by first | exact hs.ldc | exact hs.ld rfl | exact hs.ld (by assumption) | exact by assumption | exact At.cellC (by assumption))) ?_
      refine R.ev rfl ((E.conv rfl Tryd.underlying5 Tryd.underlying3).isI (c := (p3.toNat : Int)) (conv_u8 p3)) ?_
      refine R.ev rfl (E.rem rfl rfl (by omega) (by omega)) ?_
      refine R.ev rfl (E.sub rfl rfl (by omega) (by omega)) ?_
      refine R.ev rfl (E.assign rfl) ?_
      refine R.done ?_
      refine X.keep [(2, _), (7, _), (8, _), (10, _), (11, _), (12, _), (13, _)] ⟨rfl, rfl, rfl, rfl, rfl, rfl, rfl, trivial⟩ ?_
      refine X.next ?_
      refine C.seq ?_
      refine C.drawn (SatS hs) ([1, 3, 6, 9, 11, 13], [0, 2, 5, 8, 10, 12, 15, 16]) (by kernel_rfl) ?_
      have hs := hs.drew
      refine D.evP 0 rfl (by kernel_rfl) rfl (fun _ => hs.to) (fun _ => E.move rfl) ?_
      refine D.evP 2 rfl (by kernel_rfl) rfl (fun _ => hs.to) (fun _ => E.move rfl) ?_
      refine D.evP 5 rfl (by kernel_rfl) rfl (fun _ => hs.to) (fun _ => E.move rfl) ?_
      refine D.evP 8 rfl (by kernel_rfl) rfl (fun _ => hs.to) (fun _ => E.move rfl) ?_
      refine D.evP 10 rfl (by kernel_rfl) rfl (fun _ => hs.to) (fun _ => E.move rfl) ?_
      refine D.evP 12 rfl (by kernel_rfl) rfl (fun _ => hs.to) (fun _ => E.move rfl) ?_
      refine D.ev 1 rfl (by kernel_rfl) rfl hs.to (fun _ hS => E.loadRowC rfl Tryd.underlying29 rfl Tryd.sz29 (by first | exact ⟨hS.ldA, by first | rfl | assumption | exact encV_len _ | exact Enc.len _ | exact len_ub (by assumption)⟩ | exact ⟨hS.ldP rfl, by first | rfl | assumption | exact encV_len _ | exact Enc.len _ | exact len_ub (by assumption)⟩ | exact ⟨hS.ldM rfl rfl, by first | rfl | assumption | exact encV_len _ | exact Enc.len _ | exact len_ub (by assumption)⟩ | exact ⟨hS.ldM (by assumption) (by first | rfl | assumption), by first | rfl | assumption | exact encV_len _ | exact Enc.len _ | exact len_ub (by assumption)⟩ | exact ⟨by assumption, by first | rfl | assumption | exact encV_len _ | exact Enc.len _ | exact len_ub (by assumption)⟩ | exact ⟨(by assumption : ∀ w', Sat _ w' _ → At w' _ _ _) _ hS, by first | rfl | assumption | exact encV_len _ | exact Enc.len _ | exact len_ub (by assumption)⟩ | exact hS.ldp | exact At.partC (by assumption) | exact At.partC ((by assumption : ∀ w', Sat _ w' _ → At w' _ _ _) _ hS))) ?_
      refine D.ev 3 rfl (by kernel_rfl) rfl hs.to (fun _ hS => E.loadRowC rfl Tryd.underlying32 rfl Tryd.sz32 (by first | exact ⟨hS.ldA, by first | rfl | assumption | exact encV_len _ | exact Enc.len _ | exact len_ub (by assumption)⟩ | exact ⟨hS.ldP rfl, by first | rfl | assumption | exact encV_len _ | exact Enc.len _ | exact len_ub (by assumption)⟩ | exact ⟨hS.ldM rfl rfl, by first | rfl | assumption | exact encV_len _ | exact Enc.len _ | exact len_ub (by assumption)⟩ | exact ⟨hS.ldM (by assumption) (by first | rfl | assumption), by first | rfl | assumption | exact encV_len _ | exact Enc.len _ | exact len_ub (by assumption)⟩ | exact ⟨by assumption, by first | rfl | assumption | exact encV_len _ | exact Enc.len _ | exact len_ub (by assumption)⟩ | exact ⟨(by assumption : ∀ w', Sat _ w' _ → At w' _ _ _) _ hS, by first | rfl | assumption | exact encV_len _ | exact Enc.len _ | exact len_ub (by assumption)⟩ | exact hS.ldp | exact At.partC (by assumption) | exact At.partC ((by assumption : ∀ w', Sat _ w' _ → At w' _ _ _) _ hS))) ?_
      refine D.ev 6 rfl (by kernel_rfl) rfl hs.to (fun _ hS => E.loadRowC rfl Tryd.underlying34 rfl Tryd.sz34 (by first | exact ⟨hS.ldA, by first | rfl | assumption | exact encV_len _ | exact Enc.len _ | exact len_ub (by assumption)⟩ | exact ⟨hS.ldP rfl, by first | rfl | assumption | exact encV_len _ | exact Enc.len _ | exact len_ub (by assumption)⟩ | exact ⟨hS.ldM rfl rfl, by first | rfl | assumption | exact encV_len _ | exact Enc.len _ | exact len_ub (by assumption)⟩ | exact ⟨hS.ldM (by assumption) (by first | rfl | assumption), by first | rfl | assumption | exact encV_len _ | exact Enc.len _ | exact len_ub (by assumption)⟩ | exact ⟨by assumption, by first | rfl | assumption | exact encV_len _ | exact Enc.len _ | exact len_ub (by assumption)⟩ | exact ⟨(by assumption : ∀ w', Sat _ w' _ → At w' _ _ _) _ hS, by first | rfl | assumption | exact encV_len _ | exact Enc.len _ | exact len_ub (by assumption)⟩ | exact hS.ldp | exact At.partC (by assumption) | exact At.partC ((by assumption : ∀ w', Sat _ w' _ → At w' _ _ _) _ hS))) ?_
      refine D.ev 9 rfl (by kernel_rfl) rfl hs.to (fun _ hS => E.loadRowC rfl Tryd.underlying29 rfl Tryd.sz29 (by first | exact ⟨hS.ldA, by first | rfl | assumption | exact encV_len _ | exact Enc.len _ | exact len_ub (by assumption)⟩ | exact ⟨hS.ldP rfl, by first | rfl | assumption | exact encV_len _ | exact Enc.len _ | exact len_ub (by assumption)⟩ | exact ⟨hS.ldM rfl rfl, by first | rfl | assumption | exact encV_len _ | exact Enc.len _ | exact len_ub (by assumption)⟩ | exact ⟨hS.ldM (by assumption) (by first | rfl | assumption), by first | rfl | assumption | exact encV_len _ | exact Enc.len _ | exact len_ub (by assumption)⟩ | exact ⟨by assumption, by first | rfl | assumption | exact encV_len _ | exact Enc.len _ | exact len_ub (by assumption)⟩ | exact ⟨(by assumption : ∀ w', Sat _ w' _ → At w' _ _ _) _ hS, by first | rfl | assumption | exact encV_len _ | exact Enc.len _ | exact len_ub (by assumption)⟩ | exact hS.ldp | exact At.partC (by assumption) | exact At.partC ((by assumption : ∀ w', Sat _ w' _ → At w' _ _ _) _ hS))) ?_
      refine D.ev 11 rfl (by kernel_rfl) rfl hs.to (fun _ hS => E.loadRowC rfl Tryd.underlying32 rfl Tryd.sz32 (by first | exact ⟨hS.ldA, by first | rfl | assumption | exact encV_len _ | exact Enc.len _ | exact len_ub (by assumption)⟩ | exact ⟨hS.ldP rfl, by first | rfl | assumption | exact encV_len _ | exact Enc.len _ | exact len_ub (by assumption)⟩ | exact ⟨hS.ldM rfl rfl, by first | rfl | assumption | exact encV_len _ | exact Enc.len _ | exact len_ub (by assumption)⟩ | exact ⟨hS.ldM (by assumption) (by first | rfl | assumption), by first | rfl | assumption | exact encV_len _ | exact Enc.len _ | exact len_ub (by assumption)⟩ | exact ⟨by assumption, by first | rfl | assumption | exact encV_len _ | exact Enc.len _ | exact len_ub (by assumption)⟩ | exact ⟨(by assumption : ∀ w', Sat _ w' _ → At w' _ _ _) _ hS, by first | rfl | assumption | exact encV_len _ | exact Enc.len _ | exact len_ub (by assumption)⟩ | exact hS.ldp | exact At.partC (by assumption) | exact At.partC ((by assumption : ∀ w', Sat _ w' _ → At w' _ _ _) _ hS))) ?_
      refine D.ev 13 rfl (by kernel_rfl) rfl hs.to (fun _ hS => E.loadRowC rfl Tryd.underlying34 rfl Tryd.sz34 (by first | exact ⟨hS.ldA, by first | rfl | assumption | exact encV_len _ | exact Enc.len _ | exact len_ub (by assumption)⟩ | exact ⟨hS.ldP rfl, by first | rfl | assumption | exact encV_len _ | exact Enc.len _ | exact len_ub (by assumption)⟩ | exact ⟨hS.ldM rfl rfl, by first | rfl | assumption | exact encV_len _ | exact Enc.len _ | exact len_ub (by assumption)⟩ | exact ⟨hS.ldM (by assumption) (by first | rfl | assumption), by first | rfl | assumption | exact encV_len _ | exact Enc.len _ | exact len_ub (by assumption)⟩ | exact ⟨by assumption, by first | rfl | assumption | exact encV_len _ | exact Enc.len _ | exact len_ub (by assumption)⟩ | exact ⟨(by assumption : ∀ w', Sat _ w' _ → At w' _ _ _) _ hS, by first | rfl | assumption | exact encV_len _ | exact Enc.len _ | exact len_ub (by assumption)⟩ | exact hS.ldp | exact At.partC (by assumption) | exact At.partC ((by assumption : ∀ w', Sat _ w' _ → At w' _ _ _) _ hS))) ?_
      refine D.act 4 rfl (by kernel_rfl) ?_
      refine R.call ⟨_, _, Tryd.func16, rfl, by kernel_rfl⟩ rfl rfl (to_any q hs) ?_
      rintro _ w84 ⟨rfl, hs⟩
      refine D.back hs.to ?_
      refine D.act 7 rfl (by kernel_rfl) ?_
      refine R.call ⟨_, _, Tryd.func15, rfl, by kernel_rfl⟩ rfl rfl (judge_any a n q _ (idn (p2.toNat % 16)) hI (by omega) hs) ?_
      rintro _ w87 ⟨c, rfl, hc, hs⟩
      refine D.back hs.to ?_
      refine D.act 14 rfl (by kernel_rfl) ?_
      refine R.call ⟨_, _, Tryd.func17, rfl, by kernel_rfl⟩ rfl rfl (rjudge_any hlo a n q _ (idn (p2.toNat % 16)) hs (by omega)) ?_
      rintro _ w814 ⟨d, rfl, hd, hs⟩
      obtain rfl : c = d := ChA.det hI.ok.inj (fun _ _ => Iff.rfl) hc hd
      refine D.backT (by kernel_rfl) ?_
      refine D.evP 15 rfl (by kernel_rfl) rfl (np (by kernel_rfl)) (fun _ => (E.eql rfl rfl).isT rfl) ?_
      refine D.evP 16 rfl (by kernel_rfl) rfl (np (by kernel_rfl)) (fun _ => E.assign rfl) ?_
      refine D.done rfl (by kernel_rfl) ?_
      refine X.keep [(6, _)] ⟨rfl, trivial⟩ ?_
      refine X.next ?_
      refine C.ret ?_
      refine X.ret1 rfl rfl ?_
      exact ⟨rfl, (hs.less hk2.le).mod⟩
  have key_2_3_11_12_13 : ∀ (b10 b11 b12 : Nat) (w0 : World), Sat K2 w0 (row b10 29 (kvz16.1.map ub) :: row b11 32 (encP pz) :: row b12 34 (kvz.1.map ub) :: F :: row b4 23 ([p0, p1, p2, p3, p4].map ub) :: []) → DD [0, 1, 2, 3, 4, 5, 7, 8, 9, 10, 11, 12, 13] [(2, .int .i64 n), (4, ptr b4), (7, ptr p), (8, v8), (10, ptr b10), (11, ptr b11), (12, ptr b12), (25, idV a.1), (27, ub p1), (32, idV (idn (p2.toNat % 16)).1)] w0 := by
    intro b10 b11 b12 w0 hs
    refine hDD _ _ _ ?_
    refine D.actI 6 (by kernel_rfl) rfl ?_ 
    · refine R.call ⟨_, _, Tryd.func14, rfl, by kernel_rfl⟩ rfl rfl (public_any p1 hs) ?_
      rintro _ w46 ⟨rfl, hs⟩
      refine D.back hs.to ?_
      refine D.perm [0, 1, 2, 3, 4, 5, 6, 7, 8, 9, 10, 11, 12, 13] (by kernel_rfl) rfl ?_
      refine D.keep [(2, _), (4, _), (7, _), (8, _), (10, _), (11, _), (12, _), (25, _), (28, _), (32, _)] ⟨rfl, rfl, rfl, rfl, rfl, rfl, rfl, rfl, rfl, rfl, trivial⟩ ?_
      exact hDD2 _ _ _ (key_2_3_6_11_12_13 b10 b11 b12 _ hs.to)
  have key_2_3_6_12_13 : ∀ (b11 b12 : Nat) (w0 : World), Sat K2 w0 (row b11 32 (encP pz) :: row b12 34 (kvz.1.map ub) :: F :: row b4 23 ([p0, p1, p2, p3, p4].map ub) :: []) → DD [0, 1, 2, 3, 4, 5, 6, 7, 8, 9, 10, 12, 13] [(2, .int .i64 n), (4, ptr b4), (7, ptr p), (8, v8), (11, ptr b11), (12, ptr b12), (25, idV a.1), (28, .agg (encP (pubk p1.toNat)).toArray), (32, idV (idn (p2.toNat % 16)).1)] w0 := by
    intro b11 b12 w0 hs
    refine hDD _ _ _ ?_
    refine D.actI 11 (by kernel_rfl) rfl ?_ 
    · refine R.sallocA hs Tryd.zr29 rfl ?_
      intro b10 w10 hs
      have hs := Sat.seen (row b10 29 (kvz16.1.map ub)) rfl hs
      refine D.back hs.to ?_
      refine D.perm [0, 1, 2, 3, 4, 5, 6, 7, 8, 9, 10, 11, 12, 13] (by kernel_rfl) rfl ?_
      refine D.keep [(2, _), (4, _), (7, _), (8, _), (10, _), (11, _), (12, _), (25, _), (28, _), (32, _)] ⟨rfl, rfl, rfl, rfl, rfl, rfl, rfl, rfl, rfl, rfl, trivial⟩ ?_
      exact hDD2 _ _ _ (key_2_3_6_11_12_13 b10 b11 b12 _ hs.to)
  have key_2_3_6_11_13 : ∀ (b10 b12 : Nat) (w0 : World), Sat K2 w0 (row b10 29 (kvz16.1.map ub) :: row b12 34 (kvz.1.map ub) :: F :: row b4 23 ([p0, p1, p2, p3, p4].map ub) :: []) → DD [0, 1, 2, 3, 4, 5, 6, 7, 8, 9, 10, 11, 13] [(2, .int .i64 n), (4, ptr b4), (7, ptr p), (8, v8), (10, ptr b10), (12, ptr b12), (25, idV a.1), (28, .agg (encP (pubk p1.toNat)).toArray), (32, idV (idn (p2.toNat % 16)).1)] w0 := by
    intro b10 b12 w0 hs
    refine hDD _ _ _ ?_
    refine D.actI 12 (by kernel_rfl) rfl ?_ 
    · refine R.sallocA hs Tryd.zr32 rfl ?_
      intro b11 w11 hs
      have hs := Sat.seen (row b11 32 (encP pz)) rfl hs
      refine D.back hs.to ?_
      refine D.perm [0, 1, 2, 3, 4, 5, 6, 7, 8, 9, 10, 11, 12, 13] (by kernel_rfl) rfl ?_
      refine D.keep [(2, _), (4, _), (7, _), (8, _), (10, _), (11, _), (12, _), (25, _), (28, _), (32, _)] ⟨rfl, rfl, rfl, rfl, rfl, rfl, rfl, rfl, rfl, rfl, trivial⟩ ?_
      exact hDD2 _ _ _ (key_2_3_6_11_12_13 b10 b11 b12 _ hs.to)
  have key_2_3_6_11_12 : ∀ (b10 b11 : Nat) (w0 : World), Sat K2 w0 (row b10 29 (kvz16.1.map ub) :: row b11 32 (encP pz) :: F :: row b4 23 ([p0, p1, p2, p3, p4].map ub) :: []) → DD [0, 1, 2, 3, 4, 5, 6, 7, 8, 9, 10, 11, 12] [(2, .int .i64 n), (4, ptr b4), (7, ptr p), (8, v8), (10, ptr b10), (11, ptr b11), (25, idV a.1), (28, .agg (encP (pubk p1.toNat)).toArray), (32, idV (idn (p2.toNat % 16)).1)] w0 := by
    intro b10 b11 w0 hs
    refine hDD _ _ _ ?_
    refine D.actI 13 (by kernel_rfl) rfl ?_ 
    · refine R.sallocA hs Tryd.zr34 rfl ?_
      intro b12 w12 hs
      have hs := Sat.seen (row b12 34 (kvz.1.map ub)) rfl hs
      refine D.back hs.to ?_
      refine D.perm [0, 1, 2, 3, 4, 5, 6, 7, 8, 9, 10, 11, 12, 13] (by kernel_rfl) rfl ?_
      refine D.keep [(2, _), (4, _), (7, _), (8, _), (10, _), (11, _), (12, _), (25, _), (28, _), (32, _)] ⟨rfl, rfl, rfl, rfl, rfl, rfl, rfl, rfl, rfl, rfl, trivial⟩ ?_
      exact hDD2 _ _ _ (key_2_3_6_11_12_13 b10 b11 b12 _ hs.to)
  have key_2_11_12_13 : ∀ (b10 b11 b12 : Nat) (w0 : World), Sat K2 w0 (row b10 29 (kvz16.1.map ub) :: row b11 32 (encP pz) :: row b12 34 (kvz.1.map ub) :: F :: row b4 23 ([p0, p1, p2, p3, p4].map ub) :: []) → DD [0, 1, 2, 4, 5, 7, 8, 9, 10, 11, 12, 13] [(2, .int .i64 n), (4, ptr b4), (7, ptr p), (8, v8), (10, ptr b10), (11, ptr b11), (12, ptr b12), (24, .agg (encP (pubk p0.toNat)).toArray), (27, ub p1), (32, idV (idn (p2.toNat % 16)).1)] w0 := by
    intro b10 b11 b12 w0 hs
    refine hDD _ _ _ ?_
    refine D.actI 3 (by kernel_rfl) rfl ?_ 
    · refine R.call ⟨_, _, Tryd.func13, rfl, by kernel_rfl⟩ rfl rfl (rOf_any _ hs) ?_
      rintro _ w43 ⟨rfl, hs⟩
      rw [← ha]
      refine D.back hs.to ?_
      refine D.perm [0, 1, 2, 3, 4, 5, 7, 8, 9, 10, 11, 12, 13] (by kernel_rfl) rfl ?_
      refine D.keep [(2, _), (4, _), (7, _), (8, _), (10, _), (11, _), (12, _), (25, _), (27, _), (32, _)] ⟨rfl, rfl, rfl, rfl, rfl, rfl, rfl, rfl, rfl, rfl, trivial⟩ ?_
      exact hDD2 _ _ _ (key_2_3_11_12_13 b10 b11 b12 _ hs.to)
  have key_2_3_12_13 : ∀ (b11 b12 : Nat) (w0 : World), Sat K2 w0 (row b11 32 (encP pz) :: row b12 34 (kvz.1.map ub) :: F :: row b4 23 ([p0, p1, p2, p3, p4].map ub) :: []) → DD [0, 1, 2, 3, 4, 5, 7, 8, 9, 10, 12, 13] [(2, .int .i64 n), (4, ptr b4), (7, ptr p), (8, v8), (11, ptr b11), (12, ptr b12), (25, idV a.1), (27, ub p1), (32, idV (idn (p2.toNat % 16)).1)] w0 := by
    intro b11 b12 w0 hs
    refine hDD _ _ _ ?_
    refine D.actII 6 11 (by kernel_rfl) rfl rfl ?_ ?_ 
    · refine R.call ⟨_, _, Tryd.func14, rfl, by kernel_rfl⟩ rfl rfl (public_any p1 hs) ?_
      rintro _ w46 ⟨rfl, hs⟩
      refine D.back hs.to ?_
      refine D.perm [0, 1, 2, 3, 4, 5, 6, 7, 8, 9, 10, 12, 13] (by kernel_rfl) rfl ?_
      refine D.keep [(2, _), (4, _), (7, _), (8, _), (11, _), (12, _), (25, _), (28, _), (32, _)] ⟨rfl, rfl, rfl, rfl, rfl, rfl, rfl, rfl, rfl, trivial⟩ ?_
      exact hDD2 _ _ _ (key_2_3_6_12_13 b11 b12 _ hs.to)
    · refine R.sallocA hs Tryd.zr29 rfl ?_
      intro b10 w10 hs
      have hs := Sat.seen (row b10 29 (kvz16.1.map ub)) rfl hs
      refine D.back hs.to ?_
      refine D.perm [0, 1, 2, 3, 4, 5, 7, 8, 9, 10, 11, 12, 13] (by kernel_rfl) rfl ?_
      refine D.keep [(2, _), (4, _), (7, _), (8, _), (10, _), (11, _), (12, _), (25, _), (27, _), (32, _)] ⟨rfl, rfl, rfl, rfl, rfl, rfl, rfl, rfl, rfl, rfl, trivial⟩ ?_
      exact hDD2 _ _ _ (key_2_3_11_12_13 b10 b11 b12 _ hs.to)
  have key_2_3_11_13 : ∀ (b10 b12 : Nat) (w0 : World), Sat K2 w0 (row b10 29 (kvz16.1.map ub) :: row b12 34 (kvz.1.map ub) :: F :: row b4 23 ([p0, p1, p2, p3, p4].map ub) :: []) → DD [0, 1, 2, 3, 4, 5, 7, 8, 9, 10, 11, 13] [(2, .int .i64 n), (4, ptr b4), (7, ptr p), (8, v8), (10, ptr b10), (12, ptr b12), (25, idV a.1), (27, ub p1), (32, idV (idn (p2.toNat % 16)).1)] w0 := by
    intro b10 b12 w0 hs
    refine hDD _ _ _ ?_
    refine D.actII 6 12 (by kernel_rfl) rfl rfl ?_ ?_ 
    · refine R.call ⟨_, _, Tryd.func14, rfl, by kernel_rfl⟩ rfl rfl (public_any p1 hs) ?_
      rintro _ w46 ⟨rfl, hs⟩
      refine D.back hs.to ?_
      refine D.perm [0, 1, 2, 3, 4, 5, 6, 7, 8, 9, 10, 11, 13] (by kernel_rfl) rfl ?_
      refine D.keep [(2, _), (4, _), (7, _), (8, _), (10, _), (12, _), (25, _), (28, _), (32, _)] ⟨rfl, rfl, rfl, rfl, rfl, rfl, rfl, rfl, rfl, trivial⟩ ?_
      exact hDD2 _ _ _ (key_2_3_6_11_13 b10 b12 _ hs.to)
    · refine R.sallocA hs Tryd.zr32 rfl ?_
      intro b11 w11 hs
      have hs := Sat.seen (row b11 32 (encP pz)) rfl hs
      refine D.back hs.to ?_
      refine D.perm [0, 1, 2, 3, 4, 5, 7, 8, 9, 10, 11, 12, 13] (by kernel_rfl) rfl ?_
      refine D.keep [(2, _), (4, _), (7, _), (8, _), (10, _), (11, _), (12, _), (25, _), (27, _), (32, _)] ⟨rfl, rfl, rfl, rfl, rfl, rfl, rfl, rfl, rfl, rfl, trivial⟩ ?_
      exact hDD2 _ _ _ (key_2_3_11_12_13 b10 b11 b12 _ hs.to)
  have key_2_3_11_12 : ∀ (b10 b11 : Nat) (w0 : World), Sat K2 w0 (row b10 29 (kvz16.1.map ub) :: row b11 32 (encP pz) :: F :: row b4 23 ([p0, p1, p2, p3, p4].map ub) :: []) → DD [0, 1, 2, 3, 4, 5, 7, 8, 9, 10, 11, 12] [(2, .int .i64 n), (4, ptr b4), (7, ptr p), (8, v8), (10, ptr b10), (11, ptr b11), (25, idV a.1), (27, ub p1), (32, idV (idn (p2.toNat % 16)).1)] w0 := by
    intro b10 b11 w0 hs
    refine hDD _ _ _ ?_
    refine D.actII 6 13 (by kernel_rfl) rfl rfl ?_ ?_ 
    · refine R.call ⟨_, _, Tryd.func14, rfl, by kernel_rfl⟩ rfl rfl (public_any p1 hs) ?_
      rintro _ w46 ⟨rfl, hs⟩
      refine D.back hs.to ?_
      refine D.perm [0, 1, 2, 3, 4, 5, 6, 7, 8, 9, 10, 11, 12] (by kernel_rfl) rfl ?_
      refine D.keep [(2, _), (4, _), (7, _), (8, _), (10, _), (11, _), (25, _), (28, _), (32, _)] ⟨rfl, rfl, rfl, rfl, rfl, rfl, rfl, rfl, rfl, trivial⟩ ?_
      exact hDD2 _ _ _ (key_2_3_6_11_12 b10 b11 _ hs.to)
    · refine R.sallocA hs Tryd.zr34 rfl ?_
      intro b12 w12 hs
      have hs := Sat.seen (row b12 34 (kvz.1.map ub)) rfl hs
      refine D.back hs.to ?_
      refine D.perm [0, 1, 2, 3, 4, 5, 7, 8, 9, 10, 11, 12, 13] (by kernel_rfl) rfl ?_
      refine D.keep [(2, _), (4, _), (7, _), (8, _), (10, _), (11, _), (12, _), (25, _), (27, _), (32, _)] ⟨rfl, rfl, rfl, rfl, rfl, rfl, rfl, rfl, rfl, rfl, trivial⟩ ?_
      exact hDD2 _ _ _ (key_2_3_11_12_13 b10 b11 b12 _ hs.to)
  have key_2_3_6_13 : ∀ (b12 : Nat) (w0 : World), Sat K2 w0 (row b12 34 (kvz.1.map ub) :: F :: row b4 23 ([p0, p1, p2, p3, p4].map ub) :: []) → DD [0, 1, 2, 3, 4, 5, 6, 7, 8, 9, 10, 13] [(2, .int .i64 n), (4, ptr b4), (7, ptr p), (8, v8), (12, ptr b12), (25, idV a.1), (28, .agg (encP (pubk p1.toNat)).toArray), (32, idV (idn (p2.toNat % 16)).1)] w0 := by
    intro b12 w0 hs
    refine hDD _ _ _ ?_
    refine D.actII 11 12 (by kernel_rfl) rfl rfl ?_ ?_ 
    · refine R.sallocA hs Tryd.zr29 rfl ?_
      intro b10 w10 hs
      have hs := Sat.seen (row b10 29 (kvz16.1.map ub)) rfl hs
      refine D.back hs.to ?_
      refine D.perm [0, 1, 2, 3, 4, 5, 6, 7, 8, 9, 10, 11, 13] (by kernel_rfl) rfl ?_
      refine D.keep [(2, _), (4, _), (7, _), (8, _), (10, _), (12, _), (25, _), (28, _), (32, _)] ⟨rfl, rfl, rfl, rfl, rfl, rfl, rfl, rfl, rfl, trivial⟩ ?_
      exact hDD2 _ _ _ (key_2_3_6_11_13 b10 b12 _ hs.to)
    · refine R.sallocA hs Tryd.zr32 rfl ?_
      intro b11 w11 hs
      have hs := Sat.seen (row b11 32 (encP pz)) rfl hs
      refine D.back hs.to ?_
      refine D.perm [0, 1, 2, 3, 4, 5, 6, 7, 8, 9, 10, 12, 13] (by kernel_rfl) rfl ?_
      refine D.keep [(2, _), (4, _), (7, _), (8, _), (11, _), (12, _), (25, _), (28, _), (32, _)] ⟨rfl, rfl, rfl, rfl, rfl, rfl, rfl, rfl, rfl, trivial⟩ ?_
      exact hDD2 _ _ _ (key_2_3_6_12_13 b11 b12 _ hs.to)
  have key_2_3_6_12 : ∀ (b11 : Nat) (w0 : World), Sat K2 w0 (row b11 32 (encP pz) :: F :: row b4 23 ([p0, p1, p2, p3, p4].map ub) :: []) → DD [0, 1, 2, 3, 4, 5, 6, 7, 8, 9, 10, 12] [(2, .int .i64 n), (4, ptr b4), (7, ptr p), (8, v8), (11, ptr b11), (25, idV a.1), (28, .agg (encP (pubk p1.toNat)).toArray), (32, idV (idn (p2.toNat % 16)).1)] w0 := by
    intro b11 w0 hs
    refine hDD _ _ _ ?_
    refine D.actII 11 13 (by kernel_rfl) rfl rfl ?_ ?_ 
    · refine R.sallocA hs Tryd.zr29 rfl ?_
      intro b10 w10 hs
      have hs := Sat.seen (row b10 29 (kvz16.1.map ub)) rfl hs
      refine D.back hs.to ?_
      refine D.perm [0, 1, 2, 3, 4, 5, 6, 7, 8, 9, 10, 11, 12] (by kernel_rfl) rfl ?_
      refine D.keep [(2, _), (4, _), (7, _), (8, _), (10, _), (11, _), (25, _), (28, _), (32, _)] ⟨rfl, rfl, rfl, rfl, rfl, rfl, rfl, rfl, rfl, trivial⟩ ?_
      exact hDD2 _ _ _ (key_2_3_6_11_12 b10 b11 _ hs.to)
    · refine R.sallocA hs Tryd.zr34 rfl ?_
      intro b12 w12 hs
      have hs := Sat.seen (row b12 34 (kvz.1.map ub)) rfl hs
      refine D.back hs.to ?_
      refine D.perm [0, 1, 2, 3, 4, 5, 6, 7, 8, 9, 10, 12, 13] (by kernel_rfl) rfl ?_
      refine D.keep [(2, _), (4, _), (7, _), (8, _), (11, _), (12, _), (25, _), (28, _), (32, _)] ⟨rfl, rfl, rfl, rfl, rfl, rfl, rfl, rfl, rfl, trivial⟩ ?_
      exact hDD2 _ _ _ (key_2_3_6_12_13 b11 b12 _ hs.to)
  have key_2_3_6_11 : ∀ (b10 : Nat) (w0 : World), Sat K2 w0 (row b10 29 (kvz16.1.map ub) :: F :: row b4 23 ([p0, p1, p2, p3, p4].map ub) :: []) → DD [0, 1, 2, 3, 4, 5, 6, 7, 8, 9, 10, 11] [(2, .int .i64 n), (4, ptr b4), (7, ptr p), (8, v8), (10, ptr b10), (25, idV a.1), (28, .agg (encP (pubk p1.toNat)).toArray), (32, idV (idn (p2.toNat % 16)).1)] w0 := by
    intro b10 w0 hs
    refine hDD _ _ _ ?_
    refine D.actII 12 13 (by kernel_rfl) rfl rfl ?_ ?_ 
    · refine R.sallocA hs Tryd.zr32 rfl ?_
      intro b11 w11 hs
      have hs := Sat.seen (row b11 32 (encP pz)) rfl hs
      refine D.back hs.to ?_
      refine D.perm [0, 1, 2, 3, 4, 5, 6, 7, 8, 9, 10, 11, 12] (by kernel_rfl) rfl ?_
      refine D.keep [(2, _), (4, _), (7, _), (8, _), (10, _), (11, _), (25, _), (28, _), (32, _)] ⟨rfl, rfl, rfl, rfl, rfl, rfl, rfl, rfl, rfl, trivial⟩ ?_
      exact hDD2 _ _ _ (key_2_3_6_11_12 b10 b11 _ hs.to)
    · refine R.sallocA hs Tryd.zr34 rfl ?_
      intro b12 w12 hs
      have hs := Sat.seen (row b12 34 (kvz.1.map ub)) rfl hs
      refine D.back hs.to ?_
      refine D.perm [0, 1, 2, 3, 4, 5, 6, 7, 8, 9, 10, 11, 13] (by kernel_rfl) rfl ?_
      refine D.keep [(2, _), (4, _), (7, _), (8, _), (10, _), (12, _), (25, _), (28, _), (32, _)] ⟨rfl, rfl, rfl, rfl, rfl, rfl, rfl, rfl, rfl, trivial⟩ ?_
      exact hDD2 _ _ _ (key_2_3_6_11_13 b10 b12 _ hs.to)
  have key_11_12_13 : ∀ (b10 b11 b12 : Nat) (w0 : World), Sat K2 w0 (row b10 29 (kvz16.1.map ub) :: row b11 32 (encP pz) :: row b12 34 (kvz.1.map ub) :: F :: row b4 23 ([p0, p1, p2, p3, p4].map ub) :: []) → DD [0, 1, 4, 5, 7, 8, 9, 10, 11, 12, 13] [(2, .int .i64 n), (4, ptr b4), (7, ptr p), (8, v8), (10, ptr b10), (11, ptr b11), (12, ptr b12), (23, ub p0), (27, ub p1), (32, idV (idn (p2.toNat % 16)).1)] w0 := by
    intro b10 b11 b12 w0 hs
    refine hDD _ _ _ ?_
    refine D.actI 2 (by kernel_rfl) rfl ?_ 
    · refine R.call ⟨_, _, Tryd.func14, rfl, by kernel_rfl⟩ rfl rfl (public_any p0 hs) ?_
      rintro _ w42 ⟨rfl, hs⟩
      refine D.back hs.to ?_
      refine D.perm [0, 1, 2, 4, 5, 7, 8, 9, 10, 11, 12, 13] (by kernel_rfl) rfl ?_
      refine D.keep [(2, _), (4, _), (7, _), (8, _), (10, _), (11, _), (12, _), (24, _), (27, _), (32, _)] ⟨rfl, rfl, rfl, rfl, rfl, rfl, rfl, rfl, rfl, rfl, trivial⟩ ?_
      exact hDD2 _ _ _ (key_2_11_12_13 b10 b11 b12 _ hs.to)
  have key_2_12_13 : ∀ (b11 b12 : Nat) (w0 : World), Sat K2 w0 (row b11 32 (encP pz) :: row b12 34 (kvz.1.map ub) :: F :: row b4 23 ([p0, p1, p2, p3, p4].map ub) :: []) → DD [0, 1, 2, 4, 5, 7, 8, 9, 10, 12, 13] [(2, .int .i64 n), (4, ptr b4), (7, ptr p), (8, v8), (11, ptr b11), (12, ptr b12), (24, .agg (encP (pubk p0.toNat)).toArray), (27, ub p1), (32, idV (idn (p2.toNat % 16)).1)] w0 := by
    intro b11 b12 w0 hs
    refine hDD _ _ _ ?_
    refine D.actII 3 11 (by kernel_rfl) rfl rfl ?_ ?_ 
    · refine R.call ⟨_, _, Tryd.func13, rfl, by kernel_rfl⟩ rfl rfl (rOf_any _ hs) ?_
      rintro _ w43 ⟨rfl, hs⟩
      rw [← ha]
      refine D.back hs.to ?_
      refine D.perm [0, 1, 2, 3, 4, 5, 7, 8, 9, 10, 12, 13] (by kernel_rfl) rfl ?_
      refine D.keep [(2, _), (4, _), (7, _), (8, _), (11, _), (12, _), (25, _), (27, _), (32, _)] ⟨rfl, rfl, rfl, rfl, rfl, rfl, rfl, rfl, rfl, trivial⟩ ?_
      exact hDD2 _ _ _ (key_2_3_12_13 b11 b12 _ hs.to)
    · refine R.sallocA hs Tryd.zr29 rfl ?_
      intro b10 w10 hs
      have hs := Sat.seen (row b10 29 (kvz16.1.map ub)) rfl hs
      refine D.back hs.to ?_
      refine D.perm [0, 1, 2, 4, 5, 7, 8, 9, 10, 11, 12, 13] (by kernel_rfl) rfl ?_
      refine D.keep [(2, _), (4, _), (7, _), (8, _), (10, _), (11, _), (12, _), (24, _), (27, _), (32, _)] ⟨rfl, rfl, rfl, rfl, rfl, rfl, rfl, rfl, rfl, rfl, trivial⟩ ?_
      exact hDD2 _ _ _ (key_2_11_12_13 b10 b11 b12 _ hs.to)
  have key_2_11_13 : ∀ (b10 b12 : Nat) (w0 : World), Sat K2 w0 (row b10 29 (kvz16.1.map ub) :: row b12 34 (kvz.1.map ub) :: F :: row b4 23 ([p0, p1, p2, p3, p4].map ub) :: []) → DD [0, 1, 2, 4, 5, 7, 8, 9, 10, 11, 13] [(2, .int .i64 n), (4, ptr b4), (7, ptr p), (8, v8), (10, ptr b10), (12, ptr b12), (24, .agg (encP (pubk p0.toNat)).toArray), (27, ub p1), (32, idV (idn (p2.toNat % 16)).1)] w0 := by
    intro b10 b12 w0 hs
    refine hDD _ _ _ ?_
    refine D.actII 3 12 (by kernel_rfl) rfl rfl ?_ ?_ 
    · refine R.call ⟨_, _, Tryd.func13, rfl, by kernel_rfl⟩ rfl rfl (rOf_any _ hs) ?_
      rintro _ w43 ⟨rfl, hs⟩
      rw [← ha]
      refine D.back hs.to ?_
      refine D.perm [0, 1, 2, 3, 4, 5, 7, 8, 9, 10, 11, 13] (by kernel_rfl) rfl ?_
      refine D.keep [(2, _), (4, _), (7, _), (8, _), (10, _), (12, _), (25, _), (27, _), (32, _)] ⟨rfl, rfl, rfl, rfl, rfl, rfl, rfl, rfl, rfl, trivial⟩ ?_
      exact hDD2 _ _ _ (key_2_3_11_13 b10 b12 _ hs.to)
    · refine R.sallocA hs Tryd.zr32 rfl ?_
      intro b11 w11 hs
      have hs := Sat.seen (row b11 32 (encP pz)) rfl hs
      refine D.back hs.to ?_
      refine D.perm [0, 1, 2, 4, 5, 7, 8, 9, 10, 11, 12, 13] (by kernel_rfl) rfl ?_
      refine D.keep [(2, _), (4, _), (7, _), (8, _), (10, _), (11, _), (12, _), (24, _), (27, _), (32, _)] ⟨rfl, rfl, rfl, rfl, rfl, rfl, rfl, rfl, rfl, rfl, trivial⟩ ?_
      exact hDD2 _ _ _ (key_2_11_12_13 b10 b11 b12 _ hs.to)
  have key_2_11_12 : ∀ (b10 b11 : Nat) (w0 : World), Sat K2 w0 (row b10 29 (kvz16.1.map ub) :: row b11 32 (encP pz) :: F :: row b4 23 ([p0, p1, p2, p3, p4].map ub) :: []) → DD [0, 1, 2, 4, 5, 7, 8, 9, 10, 11, 12] [(2, .int .i64 n), (4, ptr b4), (7, ptr p), (8, v8), (10, ptr b10), (11, ptr b11), (24, .agg (encP (pubk p0.toNat)).toArray), (27, ub p1), (32, idV (idn (p2.toNat % 16)).1)] w0 := by
    intro b10 b11 w0 hs
    refine hDD _ _ _ ?_
    refine D.actII 3 13 (by kernel_rfl) rfl rfl ?_ ?_ 
    · refine R.call ⟨_, _, Tryd.func13, rfl, by kernel_rfl⟩ rfl rfl (rOf_any _ hs) ?_
      rintro _ w43 ⟨rfl, hs⟩
      rw [← ha]
      refine D.back hs.to ?_
      refine D.perm [0, 1, 2, 3, 4, 5, 7, 8, 9, 10, 11, 12] (by kernel_rfl) rfl ?_
      refine D.keep [(2, _), (4, _), (7, _), (8, _), (10, _), (11, _), (25, _), (27, _), (32, _)] ⟨rfl, rfl, rfl, rfl, rfl, rfl, rfl, rfl, rfl, trivial⟩ ?_
      exact hDD2 _ _ _ (key_2_3_11_12 b10 b11 _ hs.to)
    · refine R.sallocA hs Tryd.zr34 rfl ?_
      intro b12 w12 hs
      have hs := Sat.seen (row b12 34 (kvz.1.map ub)) rfl hs
      refine D.back hs.to ?_
      refine D.perm [0, 1, 2, 4, 5, 7, 8, 9, 10, 11, 12, 13] (by kernel_rfl) rfl ?_
      refine D.keep [(2, _), (4, _), (7, _), (8, _), (10, _), (11, _), (12, _), (24, _), (27, _), (32, _)] ⟨rfl, rfl, rfl, rfl, rfl, rfl, rfl, rfl, rfl, rfl, trivial⟩ ?_
      exact hDD2 _ _ _ (key_2_11_12_13 b10 b11 b12 _ hs.to)
  have key_2_3_13 : ∀ (b12 : Nat) (w0 : World), Sat K2 w0 (row b12 34 (kvz.1.map ub) :: F :: row b4 23 ([p0, p1, p2, p3, p4].map ub) :: []) → DD [0, 1, 2, 3, 4, 5, 7, 8, 9, 10, 13] [(2, .int .i64 n), (4, ptr b4), (7, ptr p), (8, v8), (12, ptr b12), (25, idV a.1), (27, ub p1), (32, idV (idn (p2.toNat % 16)).1)] w0 := by
    intro b12 w0 hs
    refine hDD _ _ _ ?_
    refine D.act3 6 11 12 (by kernel_rfl) rfl rfl rfl ?_ ?_ ?_ 
    · refine R.call ⟨_, _, Tryd.func14, rfl, by kernel_rfl⟩ rfl rfl (public_any p1 hs) ?_
      rintro _ w46 ⟨rfl, hs⟩
      refine D.back hs.to ?_
      refine D.perm [0, 1, 2, 3, 4, 5, 6, 7, 8, 9, 10, 13] (by kernel_rfl) rfl ?_
      refine D.keep [(2, _), (4, _), (7, _), (8, _), (12, _), (25, _), (28, _), (32, _)] ⟨rfl, rfl, rfl, rfl, rfl, rfl, rfl, rfl, trivial⟩ ?_
      exact hDD2 _ _ _ (key_2_3_6_13 b12 _ hs.to)
    · refine R.sallocA hs Tryd.zr29 rfl ?_
      intro b10 w10 hs
      have hs := Sat.seen (row b10 29 (kvz16.1.map ub)) rfl hs
      refine D.back hs.to ?_
      refine D.perm [0, 1, 2, 3, 4, 5, 7, 8, 9, 10, 11, 13] (by kernel_rfl) rfl ?_
      refine D.keep [(2, _), (4, _), (7, _), (8, _), (10, _), (12, _), (25, _), (27, _), (32, _)] ⟨rfl, rfl, rfl, rfl, rfl, rfl, rfl, rfl, rfl, trivial⟩ ?_
      exact hDD2 _ _ _ (key_2_3_11_13 b10 b12 _ hs.to)
    · refine R.sallocA hs Tryd.zr32 rfl ?_
      intro b11 w11 hs
      have hs := Sat.seen (row b11 32 (encP pz)) rfl hs
      refine D.back hs.to ?_
      refine D.perm [0, 1, 2, 3, 4, 5, 7, 8, 9, 10, 12, 13] (by kernel_rfl) rfl ?_
      refine D.keep [(2, _), (4, _), (7, _), (8, _), (11, _), (12, _), (25, _), (27, _), (32, _)] ⟨rfl, rfl, rfl, rfl, rfl, rfl, rfl, rfl, rfl, trivial⟩ ?_
      exact hDD2 _ _ _ (key_2_3_12_13 b11 b12 _ hs.to)
  have key_2_3_12 : ∀ (b11 : Nat) (w0 : World), Sat K2 w0 (row b11 32 (encP pz) :: F :: row b4 23 ([p0, p1, p2, p3, p4].map ub) :: []) → DD [0, 1, 2, 3, 4, 5, 7, 8, 9, 10, 12] [(2, .int .i64 n), (4, ptr b4), (7, ptr p), (8, v8), (11, ptr b11), (25, idV a.1), (27, ub p1), (32, idV (idn (p2.toNat % 16)).1)] w0 := by
    intro b11 w0 hs
    refine hDD _ _ _ ?_
    refine D.act3 6 11 13 (by kernel_rfl) rfl rfl rfl ?_ ?_ ?_ 
    · refine R.call ⟨_, _, Tryd.func14, rfl, by kernel_rfl⟩ rfl rfl (public_any p1 hs) ?_
      rintro _ w46 ⟨rfl, hs⟩
      refine D.back hs.to ?_
      refine D.perm [0, 1, 2, 3, 4, 5, 6, 7, 8, 9, 10, 12] (by kernel_rfl) rfl ?_
      refine D.keep [(2, _), (4, _), (7, _), (8, _), (11, _), (25, _), (28, _), (32, _)] ⟨rfl, rfl, rfl, rfl, rfl, rfl, rfl, rfl, trivial⟩ ?_
      exact hDD2 _ _ _ (key_2_3_6_12 b11 _ hs.to)
    · refine R.sallocA hs Tryd.zr29 rfl ?_
      intro b10 w10 hs
      have hs := Sat.seen (row b10 29 (kvz16.1.map ub)) rfl hs
      refine D.back hs.to ?_
      refine D.perm [0, 1, 2, 3, 4, 5, 7, 8, 9, 10, 11, 12] (by kernel_rfl) rfl ?_
      refine D.keep [(2, _), (4, _), (7, _), (8, _), (10, _), (11, _), (25, _), (27, _), (32, _)] ⟨rfl, rfl, rfl, rfl, rfl, rfl, rfl, rfl, rfl, trivial⟩ ?_
      exact hDD2 _ _ _ (key_2_3_11_12 b10 b11 _ hs.to)
    · refine R.sallocA hs Tryd.zr34 rfl ?_
      intro b12 w12 hs
      have hs := Sat.seen (row b12 34 (kvz.1.map ub)) rfl hs
      refine D.back hs.to ?_
      refine D.perm [0, 1, 2, 3, 4, 5, 7, 8, 9, 10, 12, 13] (by kernel_rfl) rfl ?_
      refine D.keep [(2, _), (4, _), (7, _), (8, _), (11, _), (12, _), (25, _), (27, _), (32, _)] ⟨rfl, rfl, rfl, rfl, rfl, rfl, rfl, rfl, rfl, trivial⟩ ?_
      exact hDD2 _ _ _ (key_2_3_12_13 b11 b12 _ hs.to)
  have key_2_3_11 : ∀ (b10 : Nat) (w0 : World), Sat K2 w0 (row b10 29 (kvz16.1.map ub) :: F :: row b4 23 ([p0, p1, p2, p3, p4].map ub) :: []) → DD [0, 1, 2, 3, 4, 5, 7, 8, 9, 10, 11] [(2, .int .i64 n), (4, ptr b4), (7, ptr p), (8, v8), (10, ptr b10), (25, idV a.1), (27, ub p1), (32, idV (idn (p2.toNat % 16)).1)] w0 := by
    intro b10 w0 hs
    refine hDD _ _ _ ?_
    refine D.act3 6 12 13 (by kernel_rfl) rfl rfl rfl ?_ ?_ ?_ 
    · refine R.call ⟨_, _, Tryd.func14, rfl, by kernel_rfl⟩ rfl rfl (public_any p1 hs) ?_
      rintro _ w46 ⟨rfl, hs⟩
      refine D.back hs.to ?_
      refine D.perm [0, 1, 2, 3, 4, 5, 6, 7, 8, 9, 10, 11] (by kernel_rfl) rfl ?_
      refine D.keep [(2, _), (4, _), (7, _), (8, _), (10, _), (25, _), (28, _), (32, _)] ⟨rfl, rfl, rfl, rfl, rfl, rfl, rfl, rfl, trivial⟩ ?_
      exact hDD2 _ _ _ (key_2_3_6_11 b10 _ hs.to)
    · refine R.sallocA hs Tryd.zr32 rfl ?_
      intro b11 w11 hs
      have hs := Sat.seen (row b11 32 (encP pz)) rfl hs
      refine D.back hs.to ?_
      refine D.perm [0, 1, 2, 3, 4, 5, 7, 8, 9, 10, 11, 12] (by kernel_rfl) rfl ?_
      refine D.keep [(2, _), (4, _), (7, _), (8, _), (10, _), (11, _), (25, _), (27, _), (32, _)] ⟨rfl, rfl, rfl, rfl, rfl, rfl, rfl, rfl, rfl, trivial⟩ ?_
      exact hDD2 _ _ _ (key_2_3_11_12 b10 b11 _ hs.to)
    · refine R.sallocA hs Tryd.zr34 rfl ?_
      intro b12 w12 hs
      have hs := Sat.seen (row b12 34 (kvz.1.map ub)) rfl hs
      refine D.back hs.to ?_
      refine D.perm [0, 1, 2, 3, 4, 5, 7, 8, 9, 10, 11, 13] (by kernel_rfl) rfl ?_
      refine D.keep [(2, _), (4, _), (7, _), (8, _), (10, _), (12, _), (25, _), (27, _), (32, _)] ⟨rfl, rfl, rfl, rfl, rfl, rfl, rfl, rfl, rfl, trivial⟩ ?_
      exact hDD2 _ _ _ (key_2_3_11_13 b10 b12 _ hs.to)
  have key_2_3_6 : ∀ (w0 : World), Sat K2 w0 (F :: row b4 23 ([p0, p1, p2, p3, p4].map ub) :: []) → DD [0, 1, 2, 3, 4, 5, 6, 7, 8, 9, 10] [(2, .int .i64 n), (4, ptr b4), (7, ptr p), (8, v8), (25, idV a.1), (28, .agg (encP (pubk p1.toNat)).toArray), (32, idV (idn (p2.toNat % 16)).1)] w0 := by
    intro w0 hs
    refine hDD _ _ _ ?_
    refine D.act3 11 12 13 (by kernel_rfl) rfl rfl rfl ?_ ?_ ?_ 
    · refine R.sallocA hs Tryd.zr29 rfl ?_
      intro b10 w10 hs
      have hs := Sat.seen (row b10 29 (kvz16.1.map ub)) rfl hs
      refine D.back hs.to ?_
      refine D.perm [0, 1, 2, 3, 4, 5, 6, 7, 8, 9, 10, 11] (by kernel_rfl) rfl ?_
      refine D.keep [(2, _), (4, _), (7, _), (8, _), (10, _), (25, _), (28, _), (32, _)] ⟨rfl, rfl, rfl, rfl, rfl, rfl, rfl, rfl, trivial⟩ ?_
      exact hDD2 _ _ _ (key_2_3_6_11 b10 _ hs.to)
    · refine R.sallocA hs Tryd.zr32 rfl ?_
      intro b11 w11 hs
      have hs := Sat.seen (row b11 32 (encP pz)) rfl hs
      refine D.back hs.to ?_
      refine D.perm [0, 1, 2, 3, 4, 5, 6, 7, 8, 9, 10, 12] (by kernel_rfl) rfl ?_
      refine D.keep [(2, _), (4, _), (7, _), (8, _), (11, _), (25, _), (28, _), (32, _)] ⟨rfl, rfl, rfl, rfl, rfl, rfl, rfl, rfl, trivial⟩ ?_
      exact hDD2 _ _ _ (key_2_3_6_12 b11 _ hs.to)
    · refine R.sallocA hs Tryd.zr34 rfl ?_
      intro b12 w12 hs
      have hs := Sat.seen (row b12 34 (kvz.1.map ub)) rfl hs
      refine D.back hs.to ?_
      refine D.perm [0, 1, 2, 3, 4, 5, 6, 7, 8, 9, 10, 13] (by kernel_rfl) rfl ?_
      refine D.keep [(2, _), (4, _), (7, _), (8, _), (12, _), (25, _), (28, _), (32, _)] ⟨rfl, rfl, rfl, rfl, rfl, rfl, rfl, rfl, trivial⟩ ?_
      exact hDD2 _ _ _ (key_2_3_6_13 b12 _ hs.to)
  have key_12_13 : ∀ (b11 b12 : Nat) (w0 : World), Sat K2 w0 (row b11 32 (encP pz) :: row b12 34 (kvz.1.map ub) :: F :: row b4 23 ([p0, p1, p2, p3, p4].map ub) :: []) → DD [0, 1, 4, 5, 7, 8, 9, 10, 12, 13] [(2, .int .i64 n), (4, ptr b4), (7, ptr p), (8, v8), (11, ptr b11), (12, ptr b12), (23, ub p0), (27, ub p1), (32, idV (idn (p2.toNat % 16)).1)] w0 := by
    intro b11 b12 w0 hs
    refine hDD _ _ _ ?_
    refine D.actII 2 11 (by kernel_rfl) rfl rfl ?_ ?_ 
    · refine R.call ⟨_, _, Tryd.func14, rfl, by kernel_rfl⟩ rfl rfl (public_any p0 hs) ?_
      rintro _ w42 ⟨rfl, hs⟩
      refine D.back hs.to ?_
      refine D.perm [0, 1, 2, 4, 5, 7, 8, 9, 10, 12, 13] (by kernel_rfl) rfl ?_
      refine D.keep [(2, _), (4, _), (7, _), (8, _), (11, _), (12, _), (24, _), (27, _), (32, _)] ⟨rfl, rfl, rfl, rfl, rfl, rfl, rfl, rfl, rfl, trivial⟩ ?_
      exact hDD2 _ _ _ (key_2_12_13 b11 b12 _ hs.to)
    · refine R.sallocA hs Tryd.zr29 rfl ?_
      intro b10 w10 hs
      have hs := Sat.seen (row b10 29 (kvz16.1.map ub)) rfl hs
      refine D.back hs.to ?_
      refine D.perm [0, 1, 4, 5, 7, 8, 9, 10, 11, 12, 13] (by kernel_rfl) rfl ?_
      refine D.keep [(2, _), (4, _), (7, _), (8, _), (10, _), (11, _), (12, _), (23, _), (27, _), (32, _)] ⟨rfl, rfl, rfl, rfl, rfl, rfl, rfl, rfl, rfl, rfl, trivial⟩ ?_
      exact hDD2 _ _ _ (key_11_12_13 b10 b11 b12 _ hs.to)
  have key_11_13 : ∀ (b10 b12 : Nat) (w0 : World), Sat K2 w0 (row b10 29 (kvz16.1.map ub) :: row b12 34 (kvz.1.map ub) :: F :: row b4 23 ([p0, p1, p2, p3, p4].map ub) :: []) → DD [0, 1, 4, 5, 7, 8, 9, 10, 11, 13] [(2, .int .i64 n), (4, ptr b4), (7, ptr p), (8, v8), (10, ptr b10), (12, ptr b12), (23, ub p0), (27, ub p1), (32, idV (idn (p2.toNat % 16)).1)] w0 := by
    intro b10 b12 w0 hs
    refine hDD _ _ _ ?_
    refine D.actII 2 12 (by kernel_rfl) rfl rfl ?_ ?_ 
    · refine R.call ⟨_, _, Tryd.func14, rfl, by kernel_rfl⟩ rfl rfl (public_any p0 hs) ?_
      rintro _ w42 ⟨rfl, hs⟩
      refine D.back hs.to ?_
      refine D.perm [0, 1, 2, 4, 5, 7, 8, 9, 10, 11, 13] (by kernel_rfl) rfl ?_
      refine D.keep [(2, _), (4, _), (7, _), (8, _), (10, _), (12, _), (24, _), (27, _), (32, _)] ⟨rfl, rfl, rfl, rfl, rfl, rfl, rfl, rfl, rfl, trivial⟩ ?_
      exact hDD2 _ _ _ (key_2_11_13 b10 b12 _ hs.to)
    · refine R.sallocA hs Tryd.zr32 rfl ?_
      intro b11 w11 hs
      have hs := Sat.seen (row b11 32 (encP pz)) rfl hs
      refine D.back hs.to ?_
      refine D.perm [0, 1, 4, 5, 7, 8, 9, 10, 11, 12, 13] (by kernel_rfl) rfl ?_
      refine D.keep [(2, _), (4, _), (7, _), (8, _), (10, _), (11, _), (12, _), (23, _), (27, _), (32, _)] ⟨rfl, rfl, rfl, rfl, rfl, rfl, rfl, rfl, rfl, rfl, trivial⟩ ?_
      exact hDD2 _ _ _ (key_11_12_13 b10 b11 b12 _ hs.to)
  have key_11_12 : ∀ (b10 b11 : Nat) (w0 : World), Sat K2 w0 (row b10 29 (kvz16.1.map ub) :: row b11 32 (encP pz) :: F :: row b4 23 ([p0, p1, p2, p3, p4].map ub) :: []) → DD [0, 1, 4, 5, 7, 8, 9, 10, 11, 12] [(2, .int .i64 n), (4, ptr b4), (7, ptr p), (8, v8), (10, ptr b10), (11, ptr b11), (23, ub p0), (27, ub p1), (32, idV (idn (p2.toNat % 16)).1)] w0 := by
    intro b10 b11 w0 hs
    refine hDD _ _ _ ?_
    refine D.actII 2 13 (by kernel_rfl) rfl rfl ?_ ?_ 
    · refine R.call ⟨_, _, Tryd.func14, rfl, by kernel_rfl⟩ rfl rfl (public_any p0 hs) ?_
      rintro _ w42 ⟨rfl, hs⟩
      refine D.back hs.to ?_
      refine D.perm [0, 1, 2, 4, 5, 7, 8, 9, 10, 11, 12] (by kernel_rfl) rfl ?_
      refine D.keep [(2, _), (4, _), (7, _), (8, _), (10, _), (11, _), (24, _), (27, _), (32, _)] ⟨rfl, rfl, rfl, rfl, rfl, rfl, rfl, rfl, rfl, trivial⟩ ?_
      exact hDD2 _ _ _ (key_2_11_12 b10 b11 _ hs.to)
    · refine R.sallocA hs Tryd.zr34 rfl ?_
      intro b12 w12 hs
      have hs := Sat.seen (row b12 34 (kvz.1.map ub)) rfl hs
      refine D.back hs.to ?_
      refine D.perm [0, 1, 4, 5, 7, 8, 9, 10, 11, 12, 13] (by kernel_rfl) rfl ?_
      refine D.keep [(2, _), (4, _), (7, _), (8, _), (10, _), (11, _), (12, _), (23, _), (27, _), (32, _)] ⟨rfl, rfl, rfl, rfl, rfl, rfl, rfl, rfl, rfl, rfl, trivial⟩ ?_
      exact hDD2 _ _ _ (key_11_12_13 b10 b11 b12 _ hs.to)
  have key_2_13 : ∀ (b12 : Nat) (w0 : World), Sat K2 w0 (row b12 34 (kvz.1.map ub) :: F :: row b4 23 ([p0, p1, p2, p3, p4].map ub) :: []) → DD [0, 1, 2, 4, 5, 7, 8, 9, 10, 13] [(2, .int .i64 n), (4, ptr b4), (7, ptr p), (8, v8), (12, ptr b12), (24, .agg (encP (pubk p0.toNat)).toArray), (27, ub p1), (32, idV (idn (p2.toNat % 16)).1)] w0 := by
    intro b12 w0 hs
    refine hDD _ _ _ ?_
    refine D.act3 3 11 12 (by kernel_rfl) rfl rfl rfl ?_ ?_ ?_ 
    · refine R.call ⟨_, _, Tryd.func13, rfl, by kernel_rfl⟩ rfl rfl (rOf_any _ hs) ?_
      rintro _ w43 ⟨rfl, hs⟩
      rw [← ha]
      refine D.back hs.to ?_
      refine D.perm [0, 1, 2, 3, 4, 5, 7, 8, 9, 10, 13] (by kernel_rfl) rfl ?_
      refine D.keep [(2, _), (4, _), (7, _), (8, _), (12, _), (25, _), (27, _), (32, _)] ⟨rfl, rfl, rfl, rfl, rfl, rfl, rfl, rfl, trivial⟩ ?_
      exact hDD2 _ _ _ (key_2_3_13 b12 _ hs.to)
    · refine R.sallocA hs Tryd.zr29 rfl ?_
      intro b10 w10 hs
      have hs := Sat.seen (row b10 29 (kvz16.1.map ub)) rfl hs
      refine D.back hs.to ?_
      refine D.perm [0, 1, 2, 4, 5, 7, 8, 9, 10, 11, 13] (by kernel_rfl) rfl ?_
      refine D.keep [(2, _), (4, _), (7, _), (8, _), (10, _), (12, _), (24, _), (27, _), (32, _)] ⟨rfl, rfl, rfl, rfl, rfl, rfl, rfl, rfl, rfl, trivial⟩ ?_
      exact hDD2 _ _ _ (key_2_11_13 b10 b12 _ hs.to)
    · refine R.sallocA hs Tryd.zr32 rfl ?_
      intro b11 w11 hs
      have hs := Sat.seen (row b11 32 (encP pz)) rfl hs
      refine D.back hs.to ?_
      refine D.perm [0, 1, 2, 4, 5, 7, 8, 9, 10, 12, 13] (by kernel_rfl) rfl ?_
      refine D.keep [(2, _), (4, _), (7, _), (8, _), (11, _), (12, _), (24, _), (27, _), (32, _)] ⟨rfl, rfl, rfl, rfl, rfl, rfl, rfl, rfl, rfl, trivial⟩ ?_
      exact hDD2 _ _ _ (key_2_12_13 b11 b12 _ hs.to)
  have key_2_12 : ∀ (b11 : Nat) (w0 : World), Sat K2 w0 (row b11 32 (encP pz) :: F :: row b4 23 ([p0, p1, p2, p3, p4].map ub) :: []) → DD [0, 1, 2, 4, 5, 7, 8, 9, 10, 12] [(2, .int .i64 n), (4, ptr b4), (7, ptr p), (8, v8), (11, ptr b11), (24, .agg (encP (pubk p0.toNat)).toArray), (27, ub p1), (32, idV (idn (p2.toNat % 16)).1)] w0 := by
    intro b11 w0 hs
    refine hDD _ _ _ ?_
    refine D.act3 3 11 13 (by kernel_rfl) rfl rfl rfl ?_ ?_ ?_ 
    · refine R.call ⟨_, _, Tryd.func13, rfl, by kernel_rfl⟩ rfl rfl (rOf_any _ hs) ?_
      rintro _ w43 ⟨rfl, hs⟩
      rw [← ha]
      refine D.back hs.to ?_
      refine D.perm [0, 1, 2, 3, 4, 5, 7, 8, 9, 10, 12] (by kernel_rfl) rfl ?_
      refine D.keep [(2, _), (4, _), (7, _), (8, _), (11, _), (25, _), (27, _), (32, _)] ⟨rfl, rfl, rfl, rfl, rfl, rfl, rfl, rfl, trivial⟩ ?_
      exact hDD2 _ _ _ (key_2_3_12 b11 _ hs.to)
    · refine R.sallocA hs Tryd.zr29 rfl ?_
      intro b10 w10 hs
      have hs := Sat.seen (row b10 29 (kvz16.1.map ub)) rfl hs
      refine D.back hs.to ?_
      refine D.perm [0, 1, 2, 4, 5, 7, 8, 9, 10, 11, 12] (by kernel_rfl) rfl ?_
      refine D.keep [(2, _), (4, _), (7, _), (8, _), (10, _), (11, _), (24, _), (27, _), (32, _)] ⟨rfl, rfl, rfl, rfl, rfl, rfl, rfl, rfl, rfl, trivial⟩ ?_
      exact hDD2 _ _ _ (key_2_11_12 b10 b11 _ hs.to)
    · refine R.sallocA hs Tryd.zr34 rfl ?_
      intro b12 w12 hs
      have hs := Sat.seen (row b12 34 (kvz.1.map ub)) rfl hs
      refine D.back hs.to ?_
      refine D.perm [0, 1, 2, 4, 5, 7, 8, 9, 10, 12, 13] (by kernel_rfl) rfl ?_
      refine D.keep [(2, _), (4, _), (7, _), (8, _), (11, _), (12, _), (24, _), (27, _), (32, _)] ⟨rfl, rfl, rfl, rfl, rfl, rfl, rfl, rfl, rfl, trivial⟩ ?_
      exact hDD2 _ _ _ (key_2_12_13 b11 b12 _ hs.to)
  have key_2_11 : ∀ (b10 : Nat) (w0 : World), Sat K2 w0 (row b10 29 (kvz16.1.map ub) :: F :: row b4 23 ([p0, p1, p2, p3, p4].map ub) :: []) → DD [0, 1, 2, 4, 5, 7, 8, 9, 10, 11] [(2, .int .i64 n), (4, ptr b4), (7, ptr p), (8, v8), (10, ptr b10), (24, .agg (encP (pubk p0.toNat)).toArray), (27, ub p1), (32, idV (idn (p2.toNat % 16)).1)] w0 := by
    intro b10 w0 hs
    refine hDD _ _ _ ?_
    refine D.act3 3 12 13 (by kernel_rfl) rfl rfl rfl ?_ ?_ ?_ 
    · refine R.call ⟨_, _, Tryd.func13, rfl, by kernel_rfl⟩ rfl rfl (rOf_any _ hs) ?_
      rintro _ w43 ⟨rfl, hs⟩
      rw [← ha]
      refine D.back hs.to ?_
      refine D.perm [0, 1, 2, 3, 4, 5, 7, 8, 9, 10, 11] (by kernel_rfl) rfl ?_
      refine D.keep [(2, _), (4, _), (7, _), (8, _), (10, _), (25, _), (27, _), (32, _)] ⟨rfl, rfl, rfl, rfl, rfl, rfl, rfl, rfl, trivial⟩ ?_
      exact hDD2 _ _ _ (key_2_3_11 b10 _ hs.to)
    · refine R.sallocA hs Tryd.zr32 rfl ?_
      intro b11 w11 hs
      have hs := Sat.seen (row b11 32 (encP pz)) rfl hs
      refine D.back hs.to ?_
      refine D.perm [0, 1, 2, 4, 5, 7, 8, 9, 10, 11, 12] (by kernel_rfl) rfl ?_
      refine D.keep [(2, _), (4, _), (7, _), (8, _), (10, _), (11, _), (24, _), (27, _), (32, _)] ⟨rfl, rfl, rfl, rfl, rfl, rfl, rfl, rfl, rfl, trivial⟩ ?_
      exact hDD2 _ _ _ (key_2_11_12 b10 b11 _ hs.to)
    · refine R.sallocA hs Tryd.zr34 rfl ?_
      intro b12 w12 hs
      have hs := Sat.seen (row b12 34 (kvz.1.map ub)) rfl hs
      refine D.back hs.to ?_
      refine D.perm [0, 1, 2, 4, 5, 7, 8, 9, 10, 11, 13] (by kernel_rfl) rfl ?_
      refine D.keep [(2, _), (4, _), (7, _), (8, _), (10, _), (12, _), (24, _), (27, _), (32, _)] ⟨rfl, rfl, rfl, rfl, rfl, rfl, rfl, rfl, rfl, trivial⟩ ?_
      exact hDD2 _ _ _ (key_2_11_13 b10 b12 _ hs.to)
  have key_2_3 : ∀ (w0 : World), Sat K2 w0 (F :: row b4 23 ([p0, p1, p2, p3, p4].map ub) :: []) → DD [0, 1, 2, 3, 4, 5, 7, 8, 9, 10] [(2, .int .i64 n), (4, ptr b4), (7, ptr p), (8, v8), (25, idV a.1), (27, ub p1), (32, idV (idn (p2.toNat % 16)).1)] w0 := by
    intro w0 hs
    refine hDD _ _ _ ?_
    refine D.act4 6 11 12 13 (by kernel_rfl) rfl rfl rfl rfl ?_ ?_ ?_ ?_ 
    · refine R.call ⟨_, _, Tryd.func14, rfl, by kernel_rfl⟩ rfl rfl (public_any p1 hs) ?_
      rintro _ w46 ⟨rfl, hs⟩
      refine D.back hs.to ?_
      refine D.perm [0, 1, 2, 3, 4, 5, 6, 7, 8, 9, 10] (by kernel_rfl) rfl ?_
      refine D.keep [(2, _), (4, _), (7, _), (8, _), (25, _), (28, _), (32, _)] ⟨rfl, rfl, rfl, rfl, rfl, rfl, rfl, trivial⟩ ?_
      exact hDD2 _ _ _ (key_2_3_6 _ hs.to)
    · refine R.sallocA hs Tryd.zr29 rfl ?_
      intro b10 w10 hs
      have hs := Sat.seen (row b10 29 (kvz16.1.map ub)) rfl hs
      refine D.back hs.to ?_
      refine D.perm [0, 1, 2, 3, 4, 5, 7, 8, 9, 10, 11] (by kernel_rfl) rfl ?_
      refine D.keep [(2, _), (4, _), (7, _), (8, _), (10, _), (25, _), (27, _), (32, _)] ⟨rfl, rfl, rfl, rfl, rfl, rfl, rfl, rfl, trivial⟩ ?_
      exact hDD2 _ _ _ (key_2_3_11 b10 _ hs.to)
    · refine R.sallocA hs Tryd.zr32 rfl ?_
      intro b11 w11 hs
      have hs := Sat.seen (row b11 32 (encP pz)) rfl hs
      refine D.back hs.to ?_
      refine D.perm [0, 1, 2, 3, 4, 5, 7, 8, 9, 10, 12] (by kernel_rfl) rfl ?_
      refine D.keep [(2, _), (4, _), (7, _), (8, _), (11, _), (25, _), (27, _), (32, _)] ⟨rfl, rfl, rfl, rfl, rfl, rfl, rfl, rfl, trivial⟩ ?_
      exact hDD2 _ _ _ (key_2_3_12 b11 _ hs.to)
    · refine R.sallocA hs Tryd.zr34 rfl ?_
      intro b12 w12 hs
      have hs := Sat.seen (row b12 34 (kvz.1.map ub)) rfl hs
      refine D.back hs.to ?_
      refine D.perm [0, 1, 2, 3, 4, 5, 7, 8, 9, 10, 13] (by kernel_rfl) rfl ?_
      refine D.keep [(2, _), (4, _), (7, _), (8, _), (12, _), (25, _), (27, _), (32, _)] ⟨rfl, rfl, rfl, rfl, rfl, rfl, rfl, rfl, trivial⟩ ?_
      exact hDD2 _ _ _ (key_2_3_13 b12 _ hs.to)
  have key_13 : ∀ (b12 : Nat) (w0 : World), Sat K2 w0 (row b12 34 (kvz.1.map ub) :: F :: row b4 23 ([p0, p1, p2, p3, p4].map ub) :: []) → DD [0, 1, 4, 5, 7, 8, 9, 10, 13] [(2, .int .i64 n), (4, ptr b4), (7, ptr p), (8, v8), (12, ptr b12), (23, ub p0), (27, ub p1), (32, idV (idn (p2.toNat % 16)).1)] w0 := by
    intro b12 w0 hs
    refine hDD _ _ _ ?_
    refine D.act3 2 11 12 (by kernel_rfl) rfl rfl rfl ?_ ?_ ?_ 
    · refine R.call ⟨_, _, Tryd.func14, rfl, by kernel_rfl⟩ rfl rfl (public_any p0 hs) ?_
      rintro _ w42 ⟨rfl, hs⟩
      refine D.back hs.to ?_
      refine D.perm [0, 1, 2, 4, 5, 7, 8, 9, 10, 13] (by kernel_rfl) rfl ?_
      refine D.keep [(2, _), (4, _), (7, _), (8, _), (12, _), (24, _), (27, _), (32, _)] ⟨rfl, rfl, rfl, rfl, rfl, rfl, rfl, rfl, trivial⟩ ?_
      exact hDD2 _ _ _ (key_2_13 b12 _ hs.to)
    · refine R.sallocA hs Tryd.zr29 rfl ?_
      intro b10 w10 hs
      have hs := Sat.seen (row b10 29 (kvz16.1.map ub)) rfl hs
      refine D.back hs.to ?_
      refine D.perm [0, 1, 4, 5, 7, 8, 9, 10, 11, 13] (by kernel_rfl) rfl ?_
      refine D.keep [(2, _), (4, _), (7, _), (8, _), (10, _), (12, _), (23, _), (27, _), (32, _)] ⟨rfl, rfl, rfl, rfl, rfl, rfl, rfl, rfl, rfl, trivial⟩ ?_
      exact hDD2 _ _ _ (key_11_13 b10 b12 _ hs.to)
    · refine R.sallocA hs Tryd.zr32 rfl ?_
      intro b11 w11 hs
      have hs := Sat.seen (row b11 32 (encP pz)) rfl hs
      refine D.back hs.to ?_
      refine D.perm [0, 1, 4, 5, 7, 8, 9, 10, 12, 13] (by kernel_rfl) rfl ?_
      refine D.keep [(2, _), (4, _), (7, _), (8, _), (11, _), (12, _), (23, _), (27, _), (32, _)] ⟨rfl, rfl, rfl, rfl, rfl, rfl, rfl, rfl, rfl, trivial⟩ ?_
      exact hDD2 _ _ _ (key_12_13 b11 b12 _ hs.to)
  have key_12 : ∀ (b11 : Nat) (w0 : World), Sat K2 w0 (row b11 32 (encP pz) :: F :: row b4 23 ([p0, p1, p2, p3, p4].map ub) :: []) → DD [0, 1, 4, 5, 7, 8, 9, 10, 12] [(2, .int .i64 n), (4, ptr b4), (7, ptr p), (8, v8), (11, ptr b11), (23, ub p0), (27, ub p1), (32, idV (idn (p2.toNat % 16)).1)] w0 := by
    intro b11 w0 hs
    refine hDD _ _ _ ?_
    refine D.act3 2 11 13 (by kernel_rfl) rfl rfl rfl ?_ ?_ ?_ 
    · refine R.call ⟨_, _, Tryd.func14, rfl, by kernel_rfl⟩ rfl rfl (public_any p0 hs) ?_
      rintro _ w42 ⟨rfl, hs⟩
      refine D.back hs.to ?_
      refine D.perm [0, 1, 2, 4, 5, 7, 8, 9, 10, 12] (by kernel_rfl) rfl ?_
      refine D.keep [(2, _), (4, _), (7, _), (8, _), (11, _), (24, _), (27, _), (32, _)] ⟨rfl, rfl, rfl, rfl, rfl, rfl, rfl, rfl, trivial⟩ ?_
      exact hDD2 _ _ _ (key_2_12 b11 _ hs.to)
    · refine R.sallocA hs Tryd.zr29 rfl ?_
      intro b10 w10 hs
      have hs := Sat.seen (row b10 29 (kvz16.1.map ub)) rfl hs
      refine D.back hs.to ?_
      refine D.perm [0, 1, 4, 5, 7, 8, 9, 10, 11, 12] (by kernel_rfl) rfl ?_
      refine D.keep [(2, _), (4, _), (7, _), (8, _), (10, _), (11, _), (23, _), (27, _), (32, _)] ⟨rfl, rfl, rfl, rfl, rfl, rfl, rfl, rfl, rfl, trivial⟩ ?_
      exact hDD2 _ _ _ (key_11_12 b10 b11 _ hs.to)
    · refine R.sallocA hs Tryd.zr34 rfl ?_
      intro b12 w12 hs
      have hs := Sat.seen (row b12 34 (kvz.1.map ub)) rfl hs
      refine D.back hs.to ?_
      refine D.perm [0, 1, 4, 5, 7, 8, 9, 10, 12, 13] (by kernel_rfl) rfl ?_
      refine D.keep [(2, _), (4, _), (7, _), (8, _), (11, _), (12, _), (23, _), (27, _), (32, _)] ⟨rfl, rfl, rfl, rfl, rfl, rfl, rfl, rfl, rfl, trivial⟩ ?_
      exact hDD2 _ _ _ (key_12_13 b11 b12 _ hs.to)
  have key_11 : ∀ (b10 : Nat) (w0 : World), Sat K2 w0 (row b10 29 (kvz16.1.map ub) :: F :: row b4 23 ([p0, p1, p2, p3, p4].map ub) :: []) → DD [0, 1, 4, 5, 7, 8, 9, 10, 11] [(2, .int .i64 n), (4, ptr b4), (7, ptr p), (8, v8), (10, ptr b10), (23, ub p0), (27, ub p1), (32, idV (idn (p2.toNat % 16)).1)] w0 := by
    intro b10 w0 hs
    refine hDD _ _ _ ?_
    refine D.act3 2 12 13 (by kernel_rfl) rfl rfl rfl ?_ ?_ ?_ 
    · refine R.call ⟨_, _, Tryd.func14, rfl, by kernel_rfl⟩ rfl rfl (public_any p0 hs) ?_
      rintro _ w42 ⟨rfl, hs⟩
      refine D.back hs.to ?_
      refine D.perm [0, 1, 2, 4, 5, 7, 8, 9, 10, 11] (by kernel_rfl) rfl ?_
      refine D.keep [(2, _), (4, _), (7, _), (8, _), (10, _), (24, _), (27, _), (32, _)] ⟨rfl, rfl, rfl, rfl, rfl, rfl, rfl, rfl, trivial⟩ ?_
      exact hDD2 _ _ _ (key_2_11 b10 _ hs.to)
    · refine R.sallocA hs Tryd.zr32 rfl ?_
      intro b11 w11 hs
      have hs := Sat.seen (row b11 32 (encP pz)) rfl hs
      refine D.back hs.to ?_
      refine D.perm [0, 1, 4, 5, 7, 8, 9, 10, 11, 12] (by kernel_rfl) rfl ?_
      refine D.keep [(2, _), (4, _), (7, _), (8, _), (10, _), (11, _), (23, _), (27, _), (32, _)] ⟨rfl, rfl, rfl, rfl, rfl, rfl, rfl, rfl, rfl, trivial⟩ ?_
      exact hDD2 _ _ _ (key_11_12 b10 b11 _ hs.to)
    · refine R.sallocA hs Tryd.zr34 rfl ?_
      intro b12 w12 hs
      have hs := Sat.seen (row b12 34 (kvz.1.map ub)) rfl hs
      refine D.back hs.to ?_
      refine D.perm [0, 1, 4, 5, 7, 8, 9, 10, 11, 13] (by kernel_rfl) rfl ?_
      refine D.keep [(2, _), (4, _), (7, _), (8, _), (10, _), (12, _), (23, _), (27, _), (32, _)] ⟨rfl, rfl, rfl, rfl, rfl, rfl, rfl, rfl, rfl, trivial⟩ ?_
      exact hDD2 _ _ _ (key_11_13 b10 b12 _ hs.to)
  have key_2 : ∀ (w0 : World), Sat K2 w0 (F :: row b4 23 ([p0, p1, p2, p3, p4].map ub) :: []) → DD [0, 1, 2, 4, 5, 7, 8, 9, 10] [(2, .int .i64 n), (4, ptr b4), (7, ptr p), (8, v8), (24, .agg (encP (pubk p0.toNat)).toArray), (27, ub p1), (32, idV (idn (p2.toNat % 16)).1)] w0 := by
    intro w0 hs
    refine hDD _ _ _ ?_
    refine D.act4 3 11 12 13 (by kernel_rfl) rfl rfl rfl rfl ?_ ?_ ?_ ?_ 
    · refine R.call ⟨_, _, Tryd.func13, rfl, by kernel_rfl⟩ rfl rfl (rOf_any _ hs) ?_
      rintro _ w43 ⟨rfl, hs⟩
      rw [← ha]
      refine D.back hs.to ?_
      refine D.perm [0, 1, 2, 3, 4, 5, 7, 8, 9, 10] (by kernel_rfl) rfl ?_
      refine D.keep [(2, _), (4, _), (7, _), (8, _), (25, _), (27, _), (32, _)] ⟨rfl, rfl, rfl, rfl, rfl, rfl, rfl, trivial⟩ ?_
      exact hDD2 _ _ _ (key_2_3 _ hs.to)
    · refine R.sallocA hs Tryd.zr29 rfl ?_
      intro b10 w10 hs
      have hs := Sat.seen (row b10 29 (kvz16.1.map ub)) rfl hs
      refine D.back hs.to ?_
      refine D.perm [0, 1, 2, 4, 5, 7, 8, 9, 10, 11] (by kernel_rfl) rfl ?_
      refine D.keep [(2, _), (4, _), (7, _), (8, _), (10, _), (24, _), (27, _), (32, _)] ⟨rfl, rfl, rfl, rfl, rfl, rfl, rfl, rfl, trivial⟩ ?_
      exact hDD2 _ _ _ (key_2_11 b10 _ hs.to)
    · refine R.sallocA hs Tryd.zr32 rfl ?_
      intro b11 w11 hs
      have hs := Sat.seen (row b11 32 (encP pz)) rfl hs
      refine D.back hs.to ?_
      refine D.perm [0, 1, 2, 4, 5, 7, 8, 9, 10, 12] (by kernel_rfl) rfl ?_
      refine D.keep [(2, _), (4, _), (7, _), (8, _), (11, _), (24, _), (27, _), (32, _)] ⟨rfl, rfl, rfl, rfl, rfl, rfl, rfl, rfl, trivial⟩ ?_
      exact hDD2 _ _ _ (key_2_12 b11 _ hs.to)
    · refine R.sallocA hs Tryd.zr34 rfl ?_
      intro b12 w12 hs
      have hs := Sat.seen (row b12 34 (kvz.1.map ub)) rfl hs
      refine D.back hs.to ?_
      refine D.perm [0, 1, 2, 4, 5, 7, 8, 9, 10, 13] (by kernel_rfl) rfl ?_
      refine D.keep [(2, _), (4, _), (7, _), (8, _), (12, _), (24, _), (27, _), (32, _)] ⟨rfl, rfl, rfl, rfl, rfl, rfl, rfl, rfl, trivial⟩ ?_
      exact hDD2 _ _ _ (key_2_13 b12 _ hs.to)
  have key_z : ∀ (w0 : World), Sat K2 w0 (F :: row b4 23 ([p0, p1, p2, p3, p4].map ub) :: []) → DD [0, 1, 4, 5, 7, 8, 9, 10] [(2, .int .i64 n), (4, ptr b4), (7, ptr p), (8, v8), (23, ub p0), (27, ub p1), (32, idV (idn (p2.toNat % 16)).1)] w0 := by
    intro w0 hs
    refine hDD _ _ _ ?_
    refine D.act4 2 11 12 13 (by kernel_rfl) rfl rfl rfl rfl ?_ ?_ ?_ ?_ 
    · refine R.call ⟨_, _, Tryd.func14, rfl, by kernel_rfl⟩ rfl rfl (public_any p0 hs) ?_
      rintro _ w42 ⟨rfl, hs⟩
      refine D.back hs.to ?_
      refine D.perm [0, 1, 2, 4, 5, 7, 8, 9, 10] (by kernel_rfl) rfl ?_
      refine D.keep [(2, _), (4, _), (7, _), (8, _), (24, _), (27, _), (32, _)] ⟨rfl, rfl, rfl, rfl, rfl, rfl, rfl, trivial⟩ ?_
      exact hDD2 _ _ _ (key_2 _ hs.to)
    · refine R.sallocA hs Tryd.zr29 rfl ?_
      intro b10 w10 hs
      have hs := Sat.seen (row b10 29 (kvz16.1.map ub)) rfl hs
      refine D.back hs.to ?_
      refine D.perm [0, 1, 4, 5, 7, 8, 9, 10, 11] (by kernel_rfl) rfl ?_
      refine D.keep [(2, _), (4, _), (7, _), (8, _), (10, _), (23, _), (27, _), (32, _)] ⟨rfl, rfl, rfl, rfl, rfl, rfl, rfl, rfl, trivial⟩ ?_
      exact hDD2 _ _ _ (key_11 b10 _ hs.to)
    · refine R.sallocA hs Tryd.zr32 rfl ?_
      intro b11 w11 hs
      have hs := Sat.seen (row b11 32 (encP pz)) rfl hs
      refine D.back hs.to ?_
      refine D.perm [0, 1, 4, 5, 7, 8, 9, 10, 12] (by kernel_rfl) rfl ?_
      refine D.keep [(2, _), (4, _), (7, _), (8, _), (11, _), (23, _), (27, _), (32, _)] ⟨rfl, rfl, rfl, rfl, rfl, rfl, rfl, rfl, trivial⟩ ?_
      exact hDD2 _ _ _ (key_12 b11 _ hs.to)
    · refine R.sallocA hs Tryd.zr34 rfl ?_
      intro b12 w12 hs
      have hs := Sat.seen (row b12 34 (kvz.1.map ub)) rfl hs
      refine D.back hs.to ?_
      refine D.perm [0, 1, 4, 5, 7, 8, 9, 10, 13] (by kernel_rfl) rfl ?_
      refine D.keep [(2, _), (4, _), (7, _), (8, _), (12, _), (23, _), (27, _), (32, _)] ⟨rfl, rfl, rfl, rfl, rfl, rfl, rfl, rfl, trivial⟩ ?_
      exact hDD2 _ _ _ (key_13 b12 _ hs.to)
  refine D.perm [0, 1, 4, 5, 7, 8, 9, 10] (by kernel_rfl) rfl ?_
  refine D.keep [(2, _), (4, _), (7, _), (8, _), (23, _), (27, _), (32, _)] ⟨rfl, rfl, rfl, rfl, rfl, rfl, rfl, trivial⟩ ?_
  exact hDD2 _ _ _ (key_z _ hs.to)

namespace keyringJudges
open Go.ChangeShapes Go.WideShapes Go.ChangeAt Go.RowKit
open Go.ChangeMaps (open_string shut_string)
set_option linter.unusedVariables false

theorem own : ownKnob Tryd.prog.godebug = none := by kernel_rfl
theorem laidOut : laidOutB Tryd.prog = true := by kernel_rfl
theorem door_met (os : Os) (args : Array Value) : laidMetH Tryd.prog Rows.keyringJudgesRow.laid ((World.doorLaid Tryd.prog 400 os).forCall (fun _ _ => 0) ⟨#[], args, []⟩).memory :=
  laidMetH_of_parts3 (fuel := 8) (laidMet_of_run' 8 (by kernel_rfl) (by kernel_rfl)) (by kernel_rfl) (by kernel_rfl)
set_option maxRecDepth 100000 in
theorem lifted (os : Os) (started : os.Started) (H : Type) (enc : TypeId × Value → H) :
    ReturnsInHanded {} Tryd.checked os 3 .any (fun w args => (Rows.keyringJudgesSpec.pre enc Tryd.prog Tryd.f3 [] false w args ∧ laidMetH Tryd.prog Rows.keyringJudgesRow.laid w) ∧ sizedMet enc Tryd.prog Tryd.f3 (OpenSpec.ofChange Rows.keyringJudgesSpec) false w args)
      (Rows.keyringJudgesSpec.post enc Tryd.prog Tryd.f3 false true false false) := by
  refine returnsInHanded_of_change_and (C := Tryd.checked) (X := fun w _ => laidMetH Tryd.prog Rows.keyringJudgesRow.laid w) (fun _ _ _ hh h => h.of_heap hh) own started (by kernel_rfl) Tryd.func3
    (ChangeSpec.witness_shaped (enc := enc) (C := Tryd.checked) (os := os) (X := fun w _ => laidMetH Tryd.prog Rows.keyringJudgesRow.laid w) false (World.doorLaid Tryd.prog 400 os) #[.slice none 0 0, .agg #[.int .u8 0, .int .u8 0, .int .u8 0, .int .u8 0, .int .u8 0], .int .i64 0] 8 rfl (World.shaped_of_RefB (by kernel_rfl) (by kernel_rfl)) (by kernel_rfl) (by kernel_rfl) (by kernel_rfl) (door_met os _)) ?_
  intro W base args ds gs before hval0 hW _ _ hL _
  have hval : ∀ (j : Nat) t v, Tryd.f3.params[j]? = some t → args[j]? = some v → Value.okWide Tryd.prog W .any base t v := hval0
  have hW' := hW
  obtain ⟨p, q, hA0, hV, rfl, hfz, hnd⟩ := hW
  have hA : DataW.TrodAll enc Tryd.prog W 0 (fun _ => true) true Tryd.f3.params.toList args.toList ds p := hA0
  rw [Tryd.params3] at hA hval
  obtain ⟨v0, vs0, d0, ds0, p0, q0, hargs, rfl, rfl, h0, r0⟩ := trodAll_cons hA
  obtain ⟨v1, vs1, d1, ds1, p1, q1, rfl, rfl, rfl, h1, r1⟩ := trodAll_cons r0
  obtain ⟨v2, vs2, d2, ds2, p2, q2, rfl, rfl, rfl, h2, r2⟩ := trodAll_cons r1
  obtain ⟨rfl, rfl, rfl⟩ := trodAll_nil r2
  obtain rfl : args = #[v0, v1, v2] := by cases args; simp_all
  obtain ⟨rfl, rfl⟩ := trodVars_none hV
  have lt0 : ∀ x ∈ p0, x.block < W.heap.size := by obtain ⟨m, hm⟩ := h0; exact DataW.trod_lt m _ _ _ hm
  have a0 := Eng.argv_of (hval 0 22 v0 rfl rfl) h0
  have lt1 : ∀ x ∈ p1, x.block < W.heap.size := by obtain ⟨m, hm⟩ := h1; exact DataW.trod_lt m _ _ _ hm
  have a1 := Eng.argv_of (hval 1 23 v1 rfl rfl) h1
  have lt2 : ∀ x ∈ p2, x.block < W.heap.size := by obtain ⟨m, hm⟩ := h2; exact DataW.trod_lt m _ _ _ hm
  have a2 := Eng.argv_of (hval 2 3 v2 rfl rfl) h2
  clear hA0 hval0
  refine Calls.mono (kjudges_walk W (laid_kc hL) v0 a0 v1 a1 v2 a2) fun e W' ⟨v, he, hv, hm⟩ => ?_
  subst he
  subst hv
  have bel := hm.below
  exact ⟨_, rfl, _, _, _, [], _, [], hW', trodAll_mk1 (shut_bool Tryd.underlying4 _), (trodAll_cons_mk (Below.trod laidOut (by kernel_rfl) (of_decide_eq_true (by kernel_rfl)) h0 bel lt0) (trodAll_cons_mk (Below.trod laidOut (by kernel_rfl) (of_decide_eq_true (by kernel_rfl)) h1 bel lt1) (trodAll_cons_mk (Below.trod laidOut (by kernel_rfl) (of_decide_eq_true (by kernel_rfl)) h2 bel lt2) trodAll_mk0))), rfl, bel.frame _, fun h => by cases h⟩

theorem over : Rows.keyringJudgesRow.holds Tryd.pinned (OpenSpec.ofChange Rows.keyringJudgesSpec) :=
  OpenClaim.holds_of_wide 3 Tryd.f3 rfl rfl rfl rfl rfl rfl rfl ⟨rfl, rfl, rfl, rfl, rfl⟩ rfl rfl rfl rfl rfl (by kernel_rfl) Tryd.func3 (by kernel_rfl)
    (of_decide_eq_true (by kernel_rfl)) (by unfold Func.isWrapper; first | (rw [if_pos (by decide +kernel)]; kernel_rfl) | (rw [if_neg (by decide +kernel)]; exact ⟨rfl, rfl⟩))
    (fun os started H enc _ => lifted os started H enc)
end keyringJudges
/-- the statement: the tied card -/
theorem keyringJudges_holds : Rows.KeyringJudgesCardSaid :=
  Claim7.holds_tied_plain_at .later [] [.data] true (true, "c0ab8a36735131c8a9cd87cc07d7b40f6a8e739a1cb5823313f320602ea95481") false
    keyringJudges.over (fun _ h => by cases h) (by kernel_rfl) (fun _ h => by cases h) keyringJudges_row_tie rfl ⟨rfl, rfl⟩ (by kernel_rfl) rfl
    (fun f fn hf hfn => by
      obtain rfl : f = 3 := Option.some.inj ((show Tryd.prog.funcNamed "bulletin/bulletinlaw19.KeyringJudges" = some 3 by kernel_rfl).symm.trans hf) |>.symm
      obtain rfl : fn = Tryd.f3 := (Option.some.inj (Tryd.func3.symm.trans hfn)).symm
      exact ⟨by kernel_rfl, fun j t ht => by
        rw [Tryd.params3] at ht
        have ht := List.mem_of_getElem? (by simpa using ht)
        have key : ∀ t ∈ ([22, 23, 3] : List TypeId), Tryd.prog.wantsStandIn t = false := by
          intro t ht
          simp only [List.mem_cons, List.not_mem_nil, or_false] at ht
          rcases ht with rfl | rfl | rfl <;> kernel_rfl
        exact key t (by simpa using ht)⟩)
    (by kernel_rfl)
#print axioms keyringJudges_holds
end Go.Proofs.YtbkgibgomohdjaaDoor
