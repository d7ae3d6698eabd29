/-
  KeyringHonest returns true for every leaves, roll-overs of others and place: the judgments of an honest author's articles change at most from Unknown, or from Valid to Beyond behind the limit. No condition but the listed table (tied to the program's text).
-/
import Derived.Test.YtbkgibgomohdjaaDoorKrL
import Derived.Test.YtbkgibgomohdjaaDoorEngNet
import Derived.Test.YtbkgibgomohdjaaDoorHon
namespace Go.Proofs.YtbkgibgomohdjaaDoor
open Go.Eng Go.RowKit Go.Sort
theorem list3 {l : List UInt8} (h : l.length = 3) : ∃ a b c, l = [a, b, c] := by
  match l, h with
  | [a, b, c], _ => exact ⟨a, b, c, rfl⟩
theorem list4 {l : List UInt8} (h : l.length = 4) : ∃ a b c d, l = [a, b, c, d] := by
  match l, h with
  | [a, b, c, d], _ => exact ⟨a, b, c, d, rfl⟩
def owns (l0 l1 l2 : UInt8) : List Mv := [own0 l0, own1 l1, own2 l2]
theorem hon_step {l0 l1 l2 : UInt8} {b0 b1 b2 : Bool} {L : List RO} {mv : Mv} (h : HonS l0 l1 l2 b0 b1 b2 L) (hm : mv ∈ owns l0 l1 l2 ∨ ((rkR mv).au ≠ hA ∧ mv.id.toNat < 13)) :
    ∃ b0' b1' b2', HonS l0 l1 l2 b0' b1' b2' (stepL L mv) ∧ (b0 = true → b0' = true) ∧ (b1 = true → b1' = true) ∧ (b2 = true → b2' = true) := by
  rcases hm with hm | ⟨h1, h2⟩
  · simp only [owns, List.mem_cons, List.not_mem_nil, or_false] at hm
    rcases hm with rfl | rfl | rfl
    · exact ⟨_, _, _, h.step0, fun _ => rfl, fun h => h, fun h => h⟩
    · exact ⟨_, _, _, h.step1, fun h => h, fun _ => rfl, fun h => h⟩
    · exact ⟨_, _, _, h.step2, fun h => h, fun h => h, fun _ => rfl⟩
  · exact ⟨_, _, _, h.other h1 h2, fun h => h, fun h => h, fun h => h⟩
theorem u8_toNat {k : Nat} (h : k < 256) : (UInt8.ofNat k).toNat = k := by rw [UInt8.toNat_ofNat']; omega
theorem khonest_walk (w : World) (hkc : HasKc (Kn.of w)) (v1 : Value) (a1 : ArgV Tryd.prog w 56 v1) (v2 : Value) (a2 : ArgV Tryd.prog w 22 v2) (v3 : Value) (a3 : ArgV Tryd.prog w 57 v3) : Ret Tryd.prog 5 #[v1, v2, v3] w fun r w' => r = .bool true ∧ Mod [] w w' := by
  obtain ⟨lv, rfl⟩ := argv_vec a1 Tryd.underlying56 Tryd.underlying5 (by kernel_rfl) (by kernel_rfl)
  obtain ⟨ad, cap, ms, rfl, hc1, hcm, hr1⟩ := argv_mvs a2
  obtain ⟨pl, rfl⟩ := argv_vec a3 Tryd.underlying57 Tryd.underlying5 (by kernel_rfl) (by kernel_rfl)
  obtain ⟨l0, l1, l2, hlv⟩ := list3 lv.2
  obtain ⟨p0, p1, p2, p3, hpl⟩ := list4 pl.2
  rw [hlv, hpl]
  have hs := Sat.start w
  have qa := encV_len hA
  obtain ⟨n, hn⟩ : ∃ n, n = p0.toNat % 4 := ⟨_, rfl⟩
  have hn4 : n < 4 := by omega
  obtain ⟨q, hq⟩ : ∃ q, q = pubk (1 + p1.toNat % 4) := ⟨_, rfl⟩
  have hqf : isFam q := by rw [hq]; exact pubk_fam _
  have q1 := encP_len q
  obtain ⟨lf, hlf⟩ : ∃ lf : Int, lf = ((p2.toNat % 8 : Nat) : Int) := ⟨_, rfl⟩
  obtain ⟨id, hid⟩ : ∃ id, id = idn (10 + p3.toNat % 6) := ⟨_, rfl⟩
  have q2 : (id.1.map ub).length = 32 := encV_len _
  refine Ret.enter (n := 158) (args := [idV [l0, l1, l2], .slice ad ms.length cap, idV [p0, p1, p2, p3]]) Tryd.func5 rfl rfl ?_
  refine C.keep [(0, _), (1, _), (2, _)] ⟨rfl, rfl, rfl, trivial⟩ ?_
  refine C.seq ?_
  refine C.region ?_
  refine R.sboxA hs rfl rfl ?_
  intro b3 w3 hs
  refine R.sboxA hs rfl rfl ?_
  intro b5 w5 hs
  refine R.ev rfl (E.assign rfl) ?_
  refine R.done ?_
  refine X.keep [(1, _), (3, _), (5, _)] ⟨rfl, rfl, rfl, trivial⟩ ?_
  refine X.next ?_
  refine C.seq ?_
  refine C.seq ?_
  refine C.region ?_
  refine R.call ⟨_, _, Tryd.func11, rfl, by kernel_rfl⟩ rfl rfl (known_any hs) ?_
  rintro _ w1 ⟨rfl, hs⟩
  refine R.ev rfl (E.notT rfl) ?_
  refine R.done ?_
  refine X.keep [(1, _), (3, _), (5, _), (25, _)] ⟨rfl, rfl, rfl, rfl, trivial⟩ ?_
  refine X.next ?_
  refine C.cfalse rfl ?_
  refine C.skip ?_
  refine X.next ?_
  refine C.seq ?_
  refine C.region ?_
  refine R.call ⟨_, _, Tryd.func14, rfl, by kernel_rfl⟩ rfl rfl (public_any 1 hs) ?_
  rintro _ w30 ⟨rfl, hs⟩
  refine R.call ⟨_, _, Tryd.func13, rfl, by kernel_rfl⟩ rfl rfl (rOf_any _ hs) ?_
  rintro _ w31 ⟨rfl, hs⟩
  rw [show ofP (pubk (1 : UInt8).toNat) = hA from rfl]
  refine R.sallocA hs Tryd.zr29 rfl ?_
  intro b7 w7 hs
  first | refine R.cstoreAll hs rfl rfl Tryd.sz29 (by first | rfl | assumption | exact encV_len _ | exact Enc.len _ | exact len_ub (by assumption) | simp [*]) (by first | rfl | assumption | exact encV_len _ | exact Enc.len _ | exact len_ub (by assumption) | simp [*]) (by first | assumption | exact OneL.all | exact Enc.one _ | exact ub_all _ | (repeat' (first | refine List.forall_mem_cons.2 ⟨?_, ?_⟩ | exact List.forall_mem_nil _ | rfl | exact OneC.one | exact KRow.oneC' (by assumption)))) ?_ | refine R.cstore hs rfl rfl Tryd.sz29 (by first | rfl | assumption | exact encV_len _ | exact Enc.len _ | exact len_ub (by assumption) | simp [*]) (by simp [*]) (by first | assumption | exact OneL.all | exact Enc.one _ | exact ub_all _ | (repeat' (first | refine List.forall_mem_cons.2 ⟨?_, ?_⟩ | exact List.forall_mem_nil _ | rfl | exact OneC.one | exact KRow.oneC' (by assumption)))) ?_
  intro w3_3 hs
  try simp only [List.set_cons_zero, List.set_cons_succ] at hs
  refine R.done ?_
  refine X.keep [(1, _), (3, _), (5, _), (7, _)] ⟨rfl, rfl, rfl, rfl, trivial⟩ ?_
  refine X.next ?_
  refine C.seq ?_
  refine C.region ?_
  refine R.ev rfl (E.indexAddrA0 0 0 rfl rfl Tryd.underlying56 Tryd.sz5 rfl rfl) ?_
  refine R.ev rfl (E.load1 rfl Tryd.underlying5 rfl (by first | exact hs.ldc | exact hs.ld rfl | exact hs.ld (by assumption) | exact by assumption | exact At.cellC (by assumption))) ?_
  refine R.ev rfl (E.buildG (r := encMv (own0 l0)) rfl Tryd.underlying41 Tryd.zr41 Tryd.ql41 (by kernel_rfl) (by kernel_rfl) ⟨⟨_, rfl, by first | rfl | exact vsz _ | simp [Value.cells, *]⟩, ⟨_, rfl, by first | rfl | exact vsz _ | simp [Value.cells, *]⟩, ⟨_, rfl, by first | rfl | exact vsz _ | simp [Value.cells, *]⟩, ⟨_, rfl, by first | rfl | exact vsz _ | simp [Value.cells, *]⟩, ⟨_, rfl, by first | rfl | exact vsz _ | simp [Value.cells, *]⟩, ⟨_, rfl, by first | rfl | exact vsz _ | simp [Value.cells, *]⟩, trivial⟩ (by first | rfl | simp [setF, fieldsOf, Value.cells])) ?_
  refine R.ev rfl (E.indexAddrA0 1 1 rfl rfl Tryd.underlying56 Tryd.sz5 rfl rfl) ?_
  refine R.ev rfl (E.load1 rfl Tryd.underlying5 rfl (by first | exact hs.ldc | exact hs.ld rfl | exact hs.ld (by assumption) | exact by assumption | exact At.cellC (by assumption))) ?_
  refine R.ev rfl (E.buildG (r := encMv (own1 l1)) rfl Tryd.underlying41 Tryd.zr41 Tryd.ql41 (by kernel_rfl) (by kernel_rfl) ⟨⟨_, rfl, by first | rfl | exact vsz _ | simp [Value.cells, *]⟩, ⟨_, rfl, by first | rfl | exact vsz _ | simp [Value.cells, *]⟩, ⟨_, rfl, by first | rfl | exact vsz _ | simp [Value.cells, *]⟩, ⟨_, rfl, by first | rfl | exact vsz _ | simp [Value.cells, *]⟩, ⟨_, rfl, by first | rfl | exact vsz _ | simp [Value.cells, *]⟩, ⟨_, rfl, by first | rfl | exact vsz _ | simp [Value.cells, *]⟩, ⟨_, rfl, by first | rfl | exact vsz _ | simp [Value.cells, *]⟩, trivial⟩ (by first | rfl | simp [setF, fieldsOf, Value.cells])) ?_
  refine R.ev rfl (E.indexAddrA0 2 2 rfl rfl Tryd.underlying56 Tryd.sz5 rfl rfl) ?_
  refine R.ev rfl (E.load1 rfl Tryd.underlying5 rfl (by first | exact hs.ldc | exact hs.ld rfl | exact hs.ld (by assumption) | exact by assumption | exact At.cellC (by assumption))) ?_
  refine R.ev rfl (E.buildG (r := encMv (own2 l2)) rfl Tryd.underlying41 Tryd.zr41 Tryd.ql41 (by kernel_rfl) (by kernel_rfl) ⟨⟨_, rfl, by first | rfl | exact vsz _ | simp [Value.cells, *]⟩, ⟨_, rfl, by first | rfl | exact vsz _ | simp [Value.cells, *]⟩, ⟨_, rfl, by first | rfl | exact vsz _ | simp [Value.cells, *]⟩, ⟨_, rfl, by first | rfl | exact vsz _ | simp [Value.cells, *]⟩, ⟨_, rfl, by first | rfl | exact vsz _ | simp [Value.cells, *]⟩, ⟨_, rfl, by first | rfl | exact vsz _ | simp [Value.cells, *]⟩, ⟨_, rfl, by first | rfl | exact vsz _ | simp [Value.cells, *]⟩, trivial⟩ (by first | rfl | simp [setF, fieldsOf, Value.cells])) ?_
  refine R.cbuild (enc := encMv) (owns l0 l1 l2) (parts := [(0, .tmp 30), (1, .tmp 33), (2, .tmp 36)]) hs rfl rfl rfl rfl Tryd.underlying22 Tryd.sz41 Tryd.zr41 rfl (by decide) (by decide) (by decide) ?_
  intro b37 w37 r37 hs
  refine R.ev rfl (E.assign rfl) ?_
  refine R.done ?_
  refine X.keep [(1, _), (5, _), (7, _), (8, _)] ⟨rfl, rfl, rfl, rfl, trivial⟩ ?_
  refine X.next ?_
  refine C.seq ?_
  refine C.region ?_
  refine R.call ⟨_, _, Tryd.func23, rfl, by kernel_rfl⟩ rfl rfl (new_any hs) ?_
  rintro _ w5 ⟨p, F, rfl, hw, hs⟩
  refine R.ev rfl (E.assign rfl) ?_
  refine R.done ?_
  refine X.keep [(1, _), (5, _), (7, _), (8, _), (9, _)] ⟨rfl, rfl, rfl, rfl, rfl, trivial⟩ ?_
  refine X.next ?_
  refine C.seq ?_
  refine C.region ?_
  refine R.ev rfl (E.assign rfl) ?_
  refine R.done ?_
  refine X.keep [(1, _), (5, _), (7, _), (8, _), (9, _), (10, _)] ⟨rfl, rfl, rfl, rfl, rfl, rfl, trivial⟩ ?_
  refine X.next ?_
  refine C.seq ?_
  refine C.drawn (SatS hs) ([1, 5, 10, 14], [0, 2, 3, 4, 6, 7, 9, 11, 12, 13, 15, 16, 17, 20, 22]) (by kernel_rfl) ?_
  have hs := hs.drew
  refine D.evP 0 rfl (by kernel_rfl) rfl (fun _ => hs.to) (fun _ => E.indexAddrA0 0 0 rfl rfl Tryd.underlying57 Tryd.sz5 rfl rfl) ?_
  refine D.evP 4 rfl (by kernel_rfl) rfl (fun _ => hs.to) (fun _ => E.indexAddrA0 1 1 rfl rfl Tryd.underlying57 Tryd.sz5 rfl rfl) ?_
  refine D.evP 9 rfl (by kernel_rfl) rfl (fun _ => hs.to) (fun _ => E.indexAddrA0 2 2 rfl rfl Tryd.underlying57 Tryd.sz5 rfl rfl) ?_
  refine D.evP 13 rfl (by kernel_rfl) rfl (fun _ => hs.to) (fun _ => E.indexAddrA0 3 3 rfl rfl Tryd.underlying57 Tryd.sz5 rfl rfl) ?_
  refine D.ev 1 rfl (by kernel_rfl) rfl hs.to (fun _ hS => E.load1 rfl Tryd.underlying5 rfl (by first | exact hS.ldc | exact hS.ld rfl | exact hS.ld (by assumption) | exact by assumption | exact At.cellC (by assumption) | exact At.cellC ((by assumption : ∀ w', Sat _ w' _ → At w' _ _ _) _ hS) | exact (by assumption : ∀ w', Sat _ w' _ → World.cell? w' _ = some _) _ hS)) ?_
  refine D.evP 2 rfl (by kernel_rfl) rfl (fun _ => hs.to) (fun _ => (E.conv rfl Tryd.underlying5 Tryd.underlying3).isI (c := (p0.toNat : Int)) (conv_u8 p0)) ?_
  refine D.evP 3 rfl (by kernel_rfl) rfl (fun _ => hs.to) (fun _ => (E.rem rfl rfl (by decide) (by omega)).isI (c := ((n : Nat) : Int)) (by omega)) ?_
  refine D.ev 5 rfl (by kernel_rfl) rfl hs.to (fun _ hS => E.load1 rfl Tryd.underlying5 rfl (by first | exact hS.ldc | exact hS.ld rfl | exact hS.ld (by assumption) | exact by assumption | exact At.cellC (by assumption) | exact At.cellC ((by assumption : ∀ w', Sat _ w' _ → At w' _ _ _) _ hS) | exact (by assumption : ∀ w', Sat _ w' _ → World.cell? w' _ = some _) _ hS)) ?_
  refine D.evP 6 rfl (by kernel_rfl) rfl (fun _ => hs.to) (fun _ => (E.rem rfl rfl (by decide) (by omega)).as (u := ub (UInt8.ofNat (p1.toNat % 4))) (rem_ub (by decide))) ?_
  refine D.evP 7 rfl (by kernel_rfl) rfl (fun _ => hs.to) (fun _ => (E.addW rfl rfl).as (u := ub (UInt8.ofNat (1 + p1.toNat % 4))) (by rw [IntKind.wrap_u8]; simp only [ub, Value.int.injEq, true_and]; rw [u8_toNat (by omega), u8_toNat (by omega)]; omega)) ?_
  refine D.ev 10 rfl (by kernel_rfl) rfl hs.to (fun _ hS => E.load1 rfl Tryd.underlying5 rfl (by first | exact hS.ldc | exact hS.ld rfl | exact hS.ld (by assumption) | exact by assumption | exact At.cellC (by assumption) | exact At.cellC ((by assumption : ∀ w', Sat _ w' _ → At w' _ _ _) _ hS) | exact (by assumption : ∀ w', Sat _ w' _ → World.cell? w' _ = some _) _ hS)) ?_
  refine D.evP 11 rfl (by kernel_rfl) rfl (fun _ => hs.to) (fun _ => (E.conv rfl Tryd.underlying5 Tryd.underlying3).isI (c := (p2.toNat : Int)) (conv_u8 p2)) ?_
  refine D.evP 12 rfl (by kernel_rfl) rfl (fun _ => hs.to) (fun _ => (E.rem rfl rfl (by decide) (by omega)).isI (c := lf) (by omega)) ?_
  refine D.ev 14 rfl (by kernel_rfl) rfl hs.to (fun _ hS => E.load1 rfl Tryd.underlying5 rfl (by first | exact hS.ldc | exact hS.ld rfl | exact hS.ld (by assumption) | exact by assumption | exact At.cellC (by assumption) | exact At.cellC ((by assumption : ∀ w', Sat _ w' _ → At w' _ _ _) _ hS) | exact (by assumption : ∀ w', Sat _ w' _ → World.cell? w' _ = some _) _ hS)) ?_
  refine D.evP 15 rfl (by kernel_rfl) rfl (fun _ => hs.to) (fun _ => (E.rem rfl rfl (by decide) (by omega)).as (u := ub (UInt8.ofNat (p3.toNat % 6))) (rem_ub (by decide))) ?_
  refine D.evP 16 rfl (by kernel_rfl) rfl (fun _ => hs.to) (fun _ => (E.addW rfl rfl).as (u := ub (UInt8.ofNat (10 + p3.toNat % 6))) (by rw [IntKind.wrap_u8]; simp only [ub, Value.int.injEq, true_and]; rw [u8_toNat (by omega), u8_toNat (by omega)]; omega)) ?_
  refine D.evP 17 rfl (by kernel_rfl) rfl (fun _ => hs.to) (fun _ => (E.buildOne (i := 31) rfl Tryd.underlying34 Tryd.zr34 Tryd.sz5 (by decide) rfl).as (u := .agg (id.1.map ub).toArray) (by rw [hid]; rfl)) ?_
  refine D.net fun DD hDD hDD2 => ?_
  have key_8_18_19 : ∀ (b12 b14 : Nat) (w0 : World), Sat (Kn.of w) w0 (row b12 32 (encP pz) :: row b14 34 (kvz.1.map ub) :: F :: row b37 41 ((owns l0 l1 l2).flatMap encMv) :: row b7 29 (hA.1.map ub) :: row b5 57 ([p0, p1, p2, p3].map ub) :: row b3 56 ([l0, l1, l2].map ub) :: []) → DD [0, 1, 2, 3, 4, 5, 6, 7, 8, 9, 10, 11, 12, 13, 14, 15, 16, 17, 18, 19, 20] [(1, .slice ad ms.length cap), (5, ptr b5), (7, ptr b7), (8, .slice (some ⟨b37, 0, none⟩) 3 3), (9, ptr p), (10, .slice none 0 0), (11, .int .i64 (n : Nat)), (12, ptr b12), (14, ptr b14), (47, .agg (encP q).toArray), (51, .int .i64 lf), (56, idV id.1)] w0 := by
    intro b12 b14 w0 hs
    refine hDD _ _ _ ?_
    refine D.act 21 rfl (by kernel_rfl) ?_
    first | refine R.cstoreAll hs rfl rfl Tryd.sz32 (by first | rfl | assumption | exact encV_len _ | exact Enc.len _ | exact len_ub (by assumption) | simp [*]) (by first | rfl | assumption | exact encV_len _ | exact Enc.len _ | exact len_ub (by assumption) | simp [*]) (by first | assumption | exact OneL.all | exact Enc.one _ | exact ub_all _ | (repeat' (first | refine List.forall_mem_cons.2 ⟨?_, ?_⟩ | exact List.forall_mem_nil _ | rfl | exact OneC.one | exact KRow.oneC' (by assumption)))) ?_ | refine R.cstore hs rfl rfl Tryd.sz32 (by first | rfl | assumption | exact encV_len _ | exact Enc.len _ | exact len_ub (by assumption) | simp [*]) (by simp [*]) (by first | assumption | exact OneL.all | exact Enc.one _ | exact ub_all _ | (repeat' (first | refine List.forall_mem_cons.2 ⟨?_, ?_⟩ | exact List.forall_mem_nil _ | rfl | exact OneC.one | exact KRow.oneC' (by assumption)))) ?_
    intro w7_21 hs
    try simp only [List.set_cons_zero, List.set_cons_succ] at hs
    refine D.back hs.to ?_
    refine D.evP 22 rfl (by kernel_rfl) rfl (fun _ => hs.to) (fun _ => E.assign rfl) ?_
    refine D.act 23 rfl (by kernel_rfl) ?_
    first | refine R.cstoreAll hs rfl rfl Tryd.sz34 (by first | rfl | assumption | exact encV_len _ | exact Enc.len _ | exact len_ub (by assumption) | simp [*]) (by first | rfl | assumption | exact encV_len _ | exact Enc.len _ | exact len_ub (by assumption) | simp [*]) (by first | assumption | exact OneL.all | exact Enc.one _ | exact ub_all _ | (repeat' (first | refine List.forall_mem_cons.2 ⟨?_, ?_⟩ | exact List.forall_mem_nil _ | rfl | exact OneC.one | exact KRow.oneC' (by assumption)))) ?_ | refine R.cstore hs rfl rfl Tryd.sz34 (by first | rfl | assumption | exact encV_len _ | exact Enc.len _ | exact len_ub (by assumption) | simp [*]) (by simp [*]) (by first | assumption | exact OneL.all | exact Enc.one _ | exact ub_all _ | (repeat' (first | refine List.forall_mem_cons.2 ⟨?_, ?_⟩ | exact List.forall_mem_nil _ | rfl | exact OneC.one | exact KRow.oneC' (by assumption)))) ?_
    intro w7_23 hs
    try simp only [List.set_cons_zero, List.set_cons_succ] at hs
    refine D.backT (by kernel_rfl) ?_
    refine D.done rfl (by kernel_rfl) ?_
    refine X.keep [(1, _), (5, _), (7, _), (8, _), (9, _), (10, _), (11, _), (12, _), (13, _), (14, _)] ⟨rfl, rfl, rfl, rfl, rfl, rfl, rfl, rfl, rfl, rfl, trivial⟩ ?_
    refine X.next ?_
    refine C.seq ?_
    refine C.drawn (SatS hs) ([1, 3, 6], [0, 2, 5, 8]) (by kernel_rfl) ?_
    have hs := hs.drew
    refine D.evP 0 rfl (by kernel_rfl) rfl (fun _ => hs.to) (fun _ => E.move rfl) ?_
    refine D.evP 2 rfl (by kernel_rfl) rfl (fun _ => hs.to) (fun _ => E.move rfl) ?_
    refine D.evP 5 rfl (by kernel_rfl) rfl (fun _ => hs.to) (fun _ => E.move rfl) ?_
    refine D.ev 1 rfl (by kernel_rfl) rfl hs.to (fun _ hS => E.loadRowC rfl Tryd.underlying29 rfl Tryd.sz29 (by first | exact ⟨hS.ldA, by first | rfl | assumption | exact encV_len _ | exact Enc.len _ | exact len_ub (by assumption)⟩ | exact ⟨hS.ldP rfl, by first | rfl | assumption | exact encV_len _ | exact Enc.len _ | exact len_ub (by assumption)⟩ | exact ⟨hS.ldM rfl rfl, by first | rfl | assumption | exact encV_len _ | exact Enc.len _ | exact len_ub (by assumption)⟩ | exact ⟨hS.ldM (by assumption) (by first | rfl | assumption), by first | rfl | assumption | exact encV_len _ | exact Enc.len _ | exact len_ub (by assumption)⟩ | exact ⟨by assumption, by first | rfl | assumption | exact encV_len _ | exact Enc.len _ | exact len_ub (by assumption)⟩ | exact ⟨(by assumption : ∀ w', Sat _ w' _ → At w' _ _ _) _ hS, by first | rfl | assumption | exact encV_len _ | exact Enc.len _ | exact len_ub (by assumption)⟩ | exact hS.ldp | exact At.partC (by assumption) | exact At.partC ((by assumption : ∀ w', Sat _ w' _ → At w' _ _ _) _ hS))) ?_
    refine D.ev 3 rfl (by kernel_rfl) rfl hs.to (fun _ hS => E.loadRowC rfl Tryd.underlying32 rfl Tryd.sz32 (by first | exact ⟨hS.ldA, by first | rfl | assumption | exact encV_len _ | exact Enc.len _ | exact len_ub (by assumption)⟩ | exact ⟨hS.ldP rfl, by first | rfl | assumption | exact encV_len _ | exact Enc.len _ | exact len_ub (by assumption)⟩ | exact ⟨hS.ldM rfl rfl, by first | rfl | assumption | exact encV_len _ | exact Enc.len _ | exact len_ub (by assumption)⟩ | exact ⟨hS.ldM (by assumption) (by first | rfl | assumption), by first | rfl | assumption | exact encV_len _ | exact Enc.len _ | exact len_ub (by assumption)⟩ | exact ⟨by assumption, by first | rfl | assumption | exact encV_len _ | exact Enc.len _ | exact len_ub (by assumption)⟩ | exact ⟨(by assumption : ∀ w', Sat _ w' _ → At w' _ _ _) _ hS, by first | rfl | assumption | exact encV_len _ | exact Enc.len _ | exact len_ub (by assumption)⟩ | exact hS.ldp | exact At.partC (by assumption) | exact At.partC ((by assumption : ∀ w', Sat _ w' _ → At w' _ _ _) _ hS))) ?_
    refine D.ev 6 rfl (by kernel_rfl) rfl hs.to (fun _ hS => E.loadRowC rfl Tryd.underlying34 rfl Tryd.sz34 (by first | exact ⟨hS.ldA, by first | rfl | assumption | exact encV_len _ | exact Enc.len _ | exact len_ub (by assumption)⟩ | exact ⟨hS.ldP rfl, by first | rfl | assumption | exact encV_len _ | exact Enc.len _ | exact len_ub (by assumption)⟩ | exact ⟨hS.ldM rfl rfl, by first | rfl | assumption | exact encV_len _ | exact Enc.len _ | exact len_ub (by assumption)⟩ | exact ⟨hS.ldM (by assumption) (by first | rfl | assumption), by first | rfl | assumption | exact encV_len _ | exact Enc.len _ | exact len_ub (by assumption)⟩ | exact ⟨by assumption, by first | rfl | assumption | exact encV_len _ | exact Enc.len _ | exact len_ub (by assumption)⟩ | exact ⟨(by assumption : ∀ w', Sat _ w' _ → At w' _ _ _) _ hS, by first | rfl | assumption | exact encV_len _ | exact Enc.len _ | exact len_ub (by assumption)⟩ | exact hS.ldp | exact At.partC (by assumption) | exact At.partC ((by assumption : ∀ w', Sat _ w' _ → At w' _ _ _) _ hS))) ?_
    refine D.act 4 rfl (by kernel_rfl) ?_
    refine R.call ⟨_, _, Tryd.func16, rfl, by kernel_rfl⟩ rfl rfl (to_any q hs) ?_
    rintro _ w84 ⟨rfl, hs⟩
    refine D.back hs.to ?_
    refine D.act 7 rfl (by kernel_rfl) ?_
    refine R.call ⟨_, _, Tryd.func15, rfl, by kernel_rfl⟩ rfl rfl (judge_any hA n q lf id KInv.nil (by decide) hs) ?_
    rintro _ w87 ⟨c, rfl, hc, hs⟩
    obtain rfl : c = honC l0 l1 l2 false false false := ChA.det LOk.nil.inj (fun _ _ => Iff.rfl) hc (HonS.start (l0 := l0) (l1 := l1) (l2 := l2)).chain
    refine D.backT (by kernel_rfl) ?_
    refine D.evP 8 rfl (by kernel_rfl) rfl (np (by kernel_rfl)) (fun _ => E.assign rfl) ?_
    refine D.done rfl (by kernel_rfl) ?_
    refine X.keep [(1, _), (5, _), (7, _), (8, _), (9, _), (10, _), (11, _), (12, _), (13, _), (14, _), (15, _)] ⟨rfl, rfl, rfl, rfl, rfl, rfl, rfl, rfl, rfl, rfl, rfl, trivial⟩ ?_
    refine X.next ?_
    refine C.seq ?_
    refine C.seq ?_
    refine C.region ?_
    refine R.ev rfl (E.assign rfl) ?_
    refine R.done ?_
    refine X.keep [(1, _), (5, _), (7, _), (8, _), (9, _), (10, _), (11, _), (12, _), (13, _), (14, _), (15, _), (16, _)] ⟨rfl, rfl, rfl, rfl, rfl, rfl, rfl, rfl, rfl, rfl, rfl, rfl, trivial⟩ ?_
    refine X.next ?_
    refine C.block ?_
    refine C.loop (T := Nat × Kn × MKn × MRo × List RO × Value × (Bool × Bool × Bool) × Hl) [(1, _), (5, _), (7, _), (8, _), (9, _), (11, _), (12, _), (13, _), (14, _)] (fun (i, _, _, _, _, v, (b0, b1, b2), _) => [(10, v), (15, .int .i64 (judge (honC l0 l1 l2 b0 b1 b2) hA n q lf id)), (16, .int .i64 (i : Nat))]) (fun (i, K1, MK, MR, L, v, (b0, b1, b2), F1) w' => i ≤ 13 ∧ KLe (Kn.of w) K1 ∧ KRow encO 84 K1 v L ∧ KInv MK MR L ∧ L.length ≤ i ∧ KrL p MK MR F1 ∧ HonS l0 l1 l2 b0 b1 b2 L ∧ Sat K1 w' (row b14 34 (id.1.map ub) :: row b12 32 (encP q) :: F1 :: row b37 41 ((owns l0 l1 l2).flatMap encMv) :: row b7 29 (hA.1.map ub) :: row b5 57 ([p0, p1, p2, p3].map ub) :: [])) (fun (i, _) => 13 - i) ((0, Kn.of w, [], [], [], .slice none 0 0, (false, false, false), F)) ⟨rfl, rfl, rfl, rfl, rfl, rfl, rfl, rfl, rfl, rfl, rfl, rfl, trivial⟩ ⟨Nat.zero_le _, KLe.refl _, KRow.nil, KInv.nil, Nat.zero_le _, hw, HonS.start, hs.to⟩ ?_
    rintro ⟨i, K1, MK, MR, L, v, ⟨b0, b1, b2⟩, F1⟩ w7 ⟨hi, hk1, hrv, hI, hLi, hw1, hH, hs⟩
    have ov : OneC v := ⟨KRow.oneC' hrv⟩
    have hmsr : KRow encMv 7 K1 (.slice ad ms.length cap) ms := KRow.mono (k := hk1) (h := hr1)
    refine C.keep [(1, _), (5, _), (7, _), (8, _), (9, _), (10, _), (11, _), (12, _), (13, _), (14, _), (15, _), (16, _)] ⟨rfl, rfl, rfl, rfl, rfl, rfl, rfl, rfl, rfl, rfl, rfl, rfl, trivial⟩ ?_
    refine C.seq ?_
    refine C.seq ?_
    refine C.region ?_
    refine R.ev rfl (E.move rfl) ?_
    refine R.ev rfl (E.lss rfl rfl) ?_
    refine R.done ?_
    refine X.keep [(1, _), (5, _), (7, _), (8, _), (9, _), (10, _), (11, _), (12, _), (13, _), (14, _), (15, _), (16, _), (66, _)] ⟨rfl, rfl, rfl, rfl, rfl, rfl, rfl, rfl, rfl, rfl, rfl, rfl, rfl, trivial⟩ ?_
    refine X.next ?_
    refine C.cdec rfl (fun h66 => ?_) (fun h66 => ?_)
    · refine C.skip ?_
      refine X.next ?_
      refine C.seq ?_
      refine C.block ?_
      refine C.seq ?_
      refine C.region ?_
      refine R.sallocA hs Tryd.zr41 rfl ?_
      intro b17 w17 hs
      have hs := Sat.seen (row b17 41 (encMv ⟨0, 0, 0, 0, 0, 0, 0⟩)) rfl hs
      refine R.done ?_
      refine X.keep [(1, _), (5, _), (7, _), (8, _), (9, _), (10, _), (11, _), (12, _), (13, _), (14, _), (15, _), (16, _), (17, _)] ⟨rfl, rfl, rfl, rfl, rfl, rfl, rfl, rfl, rfl, rfl, rfl, rfl, rfl, trivial⟩ ?_
      refine X.next ?_
      refine C.seq ?_
      refine C.block ?_
      refine C.seq ?_
      refine C.region ?_
      refine R.ev rfl (E.move rfl) ?_
      refine R.ev rfl ((E.rem rfl rfl (by omega) (by omega)).isI (c := ((i % 4 : Nat) : Int)) (by omega)) ?_
      refine R.ev rfl (E.eql rfl rfl) ?_
      refine R.ev rfl (E.move rfl) ?_
      refine R.split 73 rfl (fun h73 => ?_) (fun h73 => ?_)
      · refine R.gyes rfl rfl ?_
        refine R.ev rfl (E.move rfl) ?_
        refine R.gyes rfl rfl ?_
        refine R.ev rfl ((E.quo rfl rfl (by omega) (by omega) (by omega)).isI (c := ((i / 4 : Nat) : Int)) (by omega)) ?_
        refine R.gyes rfl rfl ?_
        refine R.ev rfl (E.lss rfl rfl) ?_
        refine R.ev rfl (E.pickT rfl rfl) ?_
        refine R.ev rfl (E.assign rfl) ?_
        refine R.done ?_
        refine X.keep [(1, _), (5, _), (7, _), (8, _), (9, _), (10, _), (11, _), (12, _), (13, _), (14, _), (15, _), (16, _), (17, _), (69, _)] ⟨rfl, rfl, rfl, rfl, rfl, rfl, rfl, rfl, rfl, rfl, rfl, rfl, rfl, rfl, trivial⟩ ?_
        refine X.next ?_
        refine C.cut [(1, _), (5, _), (7, _), (8, _), (9, _), (10, _), (11, _), (12, _), (13, _), (14, _), (15, _), (16, _), (17, _)] (fun (mv : Mv) => []) (fun mv w' => (mv ∈ owns l0 l1 l2 ∨ ((rkR mv).au ≠ hA ∧ mv.id.toNat < 13)) ∧ Sat K1 w' (row b17 41 (encMv mv) :: row b14 34 (id.1.map ub) :: row b12 32 (encP q) :: F1 :: row b37 41 ((owns l0 l1 l2).flatMap encMv) :: row b7 29 (hA.1.map ub) :: row b5 57 ([p0, p1, p2, p3].map ub) :: [])) ⟨rfl, rfl, rfl, rfl, rfl, rfl, rfl, rfl, rfl, rfl, rfl, rfl, rfl, trivial⟩ ?_ ?_
        · refine C.cbool rfl (fun h69 => ?_) (fun h69 => ?_)
          · obtain ⟨y, hy⟩ : ∃ y, (owns l0 l1 l2)[(i / 4 + p3.toNat) % 3]? = some y := ⟨_, List.getElem?_eq_getElem (show (i / 4 + p3.toNat) % 3 < 3 by omega)⟩
            have my : y ∈ owns l0 l1 l2 := List.mem_of_getElem? hy
            have Ay := Sat.elAt (b := b37) (off := 0) (n := 3) 3 hs hy
            have ay := Ay _ hs
            refine C.region ?_
            refine R.ev rfl (E.move rfl) ?_
            refine R.ev rfl (E.move rfl) ?_
            refine R.ev rfl ((E.quo rfl rfl (by omega) (by omega) (by omega)).isI (c := ((i / 4 : Nat) : Int)) (by omega)) ?_
            refine R.ev rfl (E.indexAddrA0 3 3 rfl rfl Tryd.underlying57 Tryd.sz5 rfl rfl) ?_
            refine R.ev rfl (E.load1 rfl Tryd.underlying5 rfl (by first | exact hs.ldc | exact hs.ld rfl | exact hs.ld (by assumption) | exact by assumption | exact At.cellC (by assumption))) ?_
            refine R.ev rfl ((E.conv rfl Tryd.underlying5 Tryd.underlying3).isI (c := (p3.toNat : Int)) (conv_u8 p3)) ?_
            have hp3 := p3.toNat_lt
            refine R.ev rfl ((E.add rfl rfl (by omega) (by omega)).isI (c := ((i / 4 + p3.toNat : Nat) : Int)) (by omega)) ?_
            refine R.ev rfl ((E.rem rfl rfl (by omega) (by omega)).isI (c := (((i / 4 + p3.toNat) % 3 : Nat) : Int)) (by omega)) ?_
            refine R.ev rfl (E.indexAddr (i := (i / 4 + p3.toNat) % 3) rfl rfl Tryd.underlying22 Tryd.sz41 rfl (by omega)) ?_
            refine R.ev rfl (E.loadRowC rfl Tryd.underlying41 rfl Tryd.sz41 (by first | exact ⟨hs.ldA, by first | rfl | assumption | exact encV_len _ | exact Enc.len _ | exact len_ub (by assumption)⟩ | exact ⟨hs.ldP rfl, by first | rfl | assumption | exact encV_len _ | exact Enc.len _ | exact len_ub (by assumption)⟩ | exact ⟨hs.ldM rfl rfl, by first | rfl | assumption | exact encV_len _ | exact Enc.len _ | exact len_ub (by assumption)⟩ | exact ⟨hs.ldM (by assumption) (by first | rfl | assumption), by first | rfl | assumption | exact encV_len _ | exact Enc.len _ | exact len_ub (by assumption)⟩ | exact ⟨by assumption, by first | rfl | assumption | exact encV_len _ | exact Enc.len _ | exact len_ub (by assumption)⟩ | exact hs.ldp | exact At.partC (by assumption))) ?_
            first | refine R.cstoreAll hs rfl rfl Tryd.sz41 (by first | rfl | assumption | exact encV_len _ | exact Enc.len _ | exact len_ub (by assumption) | simp [*]) (by first | rfl | assumption | exact encV_len _ | exact Enc.len _ | exact len_ub (by assumption) | simp [*]) (by first | assumption | exact OneL.all | exact Enc.one _ | exact ub_all _ | (repeat' (first | refine List.forall_mem_cons.2 ⟨?_, ?_⟩ | exact List.forall_mem_nil _ | rfl | exact OneC.one | exact KRow.oneC' (by assumption)))) ?_ | refine R.cstore hs rfl rfl Tryd.sz41 (by first | rfl | assumption | exact encV_len _ | exact Enc.len _ | exact len_ub (by assumption) | simp [*]) (by simp [*]) (by first | assumption | exact OneL.all | exact Enc.one _ | exact ub_all _ | (repeat' (first | refine List.forall_mem_cons.2 ⟨?_, ?_⟩ | exact List.forall_mem_nil _ | rfl | exact OneC.one | exact KRow.oneC' (by assumption)))) ?_
            intro w14_10 hs
            try simp only [List.set_cons_zero, List.set_cons_succ] at hs
            refine R.done ?_
            refine X.keep [(1, _), (5, _), (7, _), (8, _), (9, _), (10, _), (11, _), (12, _), (13, _), (14, _), (15, _), (16, _), (17, _)] ⟨rfl, rfl, rfl, rfl, rfl, rfl, rfl, rfl, rfl, rfl, rfl, rfl, rfl, trivial⟩ ?_
            first
              | exact X.cut (y) ⟨rfl, rfl, rfl, rfl, rfl, rfl, rfl, rfl, rfl, rfl, rfl, rfl, rfl, trivial⟩ ⟨.inl my, hs.to⟩
              | exact X.cut (_) ⟨rfl, rfl, rfl, rfl, rfl, rfl, rfl, rfl, rfl, rfl, rfl, rfl, rfl, trivial⟩ ⟨.inr ⟨h110, by show (UInt8.ofNat (y.id.toNat % 13)).toNat < 13; rw [u8_toNat (by omega)]; omega⟩, hs.to⟩
          · refine C.seq ?_
            refine C.region ?_
            refine R.ev rfl (E.move rfl) ?_
            refine R.ev rfl (E.move rfl) ?_
            refine R.ev rfl (E.lenSl rfl Tryd.underlying22) ?_
            refine R.ev rfl (E.lss rfl rfl) ?_
            refine R.ev rfl (E.assign rfl) ?_
            refine R.done ?_
            refine X.keep [(1, _), (5, _), (7, _), (8, _), (9, _), (10, _), (11, _), (12, _), (13, _), (14, _), (15, _), (16, _), (17, _), (88, _)] ⟨rfl, rfl, rfl, rfl, rfl, rfl, rfl, rfl, rfl, rfl, rfl, rfl, rfl, rfl, trivial⟩ ?_
            refine X.next ?_
            refine C.cdec rfl (fun h88 => ?_) (fun h88 => ?_)
            · obtain ⟨y, bk_y, of_y, hy, my, ly, rfl, Ay⟩ := (hs.to (Hs := [])).el (i := i) (ad := ad) (n := ms.length) (c := cap) (by omega)
              have ay := Ay _ hs.to
              refine C.seq ?_
              refine C.region ?_
              refine R.ev rfl (E.move rfl) ?_
              refine R.ev rfl (E.move rfl) ?_
              refine R.ev rfl (E.indexAddr (i := i) rfl rfl Tryd.underlying22 Tryd.sz41 rfl (by omega)) ?_
              refine R.ev rfl (E.loadRowC rfl Tryd.underlying41 rfl Tryd.sz41 (by first | exact ⟨hs.ldA, by first | rfl | assumption | exact encV_len _ | exact Enc.len _ | exact len_ub (by assumption)⟩ | exact ⟨hs.ldP rfl, by first | rfl | assumption | exact encV_len _ | exact Enc.len _ | exact len_ub (by assumption)⟩ | exact ⟨hs.ldM rfl rfl, by first | rfl | assumption | exact encV_len _ | exact Enc.len _ | exact len_ub (by assumption)⟩ | exact ⟨hs.ldM (by assumption) (by first | rfl | assumption), by first | rfl | assumption | exact encV_len _ | exact Enc.len _ | exact len_ub (by assumption)⟩ | exact ⟨by assumption, by first | rfl | assumption | exact encV_len _ | exact Enc.len _ | exact len_ub (by assumption)⟩ | exact hs.ldp | exact At.partC (by assumption))) ?_
              first | refine R.cstoreAll hs rfl rfl Tryd.sz41 (by first | rfl | assumption | exact encV_len _ | exact Enc.len _ | exact len_ub (by assumption) | simp [*]) (by first | rfl | assumption | exact encV_len _ | exact Enc.len _ | exact len_ub (by assumption) | simp [*]) (by first | assumption | exact OneL.all | exact Enc.one _ | exact ub_all _ | (repeat' (first | refine List.forall_mem_cons.2 ⟨?_, ?_⟩ | exact List.forall_mem_nil _ | rfl | exact OneC.one | exact KRow.oneC' (by assumption)))) ?_ | refine R.cstore hs rfl rfl Tryd.sz41 (by first | rfl | assumption | exact encV_len _ | exact Enc.len _ | exact len_ub (by assumption) | simp [*]) (by simp [*]) (by first | assumption | exact OneL.all | exact Enc.one _ | exact ub_all _ | (repeat' (first | refine List.forall_mem_cons.2 ⟨?_, ?_⟩ | exact List.forall_mem_nil _ | rfl | exact OneC.one | exact KRow.oneC' (by assumption)))) ?_
              intro w16_4 hs
              try simp only [List.set_cons_zero, List.set_cons_succ] at hs
              refine R.done ?_
              refine X.keep [(1, _), (5, _), (7, _), (8, _), (9, _), (10, _), (11, _), (12, _), (13, _), (14, _), (15, _), (16, _), (17, _)] ⟨rfl, rfl, rfl, rfl, rfl, rfl, rfl, rfl, rfl, rfl, rfl, rfl, rfl, trivial⟩ ?_
              refine X.next ?_
              refine C.seq ?_
              refine C.region ?_
              first | refine R.ev rfl (E.fieldAddr0 5 rfl Tryd.underlying41 rfl Tryd.sz5 rfl) ?_ | refine R.ev rfl (E.fieldAddrN 5 rfl Tryd.underlying41 rfl Tryd.sz5 rfl) ?_
              refine R.ev rfl (E.load1 rfl Tryd.underlying5 rfl (by first | exact hs.ldc | exact hs.ld rfl | exact hs.ld (by assumption) | exact by assumption | exact At.cellC (by assumption))) ?_
              refine R.ev rfl ((E.rem rfl rfl (by decide) (by omega)).as (u := ub (UInt8.ofNat (y.id.toNat % 13))) (rem_ub (by decide))) ?_
              first | refine R.ev rfl (E.fieldAddr0 5 rfl Tryd.underlying41 rfl Tryd.sz5 rfl) ?_ | refine R.ev rfl (E.fieldAddrN 5 rfl Tryd.underlying41 rfl Tryd.sz5 rfl) ?_
              refine R.cstore1 (b := b17) hs rfl rfl Tryd.sz5 (by rw [Enc.len (enc := encMv)]; decide) rfl ?_
              intro w174 hs
              have hs := Sat.seen (row b17 41 (encMv { y with id := UInt8.ofNat (y.id.toNat % 13) })) rfl hs
              refine R.done ?_
              refine X.keep [(1, _), (5, _), (7, _), (8, _), (9, _), (10, _), (11, _), (12, _), (13, _), (14, _), (15, _), (16, _), (17, _)] ⟨rfl, rfl, rfl, rfl, rfl, rfl, rfl, rfl, rfl, rfl, rfl, rfl, rfl, trivial⟩ ?_
              refine X.next ?_
              refine C.seq ?_
              refine C.region ?_
              refine R.ev rfl (E.loadRowC rfl Tryd.underlying41 rfl Tryd.sz41 (by first | exact ⟨hs.ldA, by first | rfl | assumption | exact encV_len _ | exact Enc.len _ | exact len_ub (by assumption)⟩ | exact ⟨hs.ldP rfl, by first | rfl | assumption | exact encV_len _ | exact Enc.len _ | exact len_ub (by assumption)⟩ | exact ⟨hs.ldM rfl rfl, by first | rfl | assumption | exact encV_len _ | exact Enc.len _ | exact len_ub (by assumption)⟩ | exact ⟨hs.ldM (by assumption) (by first | rfl | assumption), by first | rfl | assumption | exact encV_len _ | exact Enc.len _ | exact len_ub (by assumption)⟩ | exact ⟨by assumption, by first | rfl | assumption | exact encV_len _ | exact Enc.len _ | exact len_ub (by assumption)⟩ | exact hs.ldp | exact At.partC (by assumption))) ?_
              refine R.call ⟨_, _, Tryd.func19, rfl, by kernel_rfl⟩ rfl rfl (rekey_any { y with id := UInt8.ofNat (y.id.toNat % 13) } hs) ?_
              rintro _ w18 ⟨rfl, hs⟩
              have q9 := encO_len (rkR { y with id := UInt8.ofNat (y.id.toNat % 13) })
              have q8 := encV_len (rkR { y with id := UInt8.ofNat (y.id.toNat % 13) }).au
              refine R.ev rfl (E.move rfl) ?_
              refine R.ev rfl (E.extract rfl rfl) ?_
              refine R.ev rfl (E.extract rfl rfl) ?_
              refine R.ev rfl (E.extract rfl rfl) ?_
              refine R.sallocA hs Tryd.zr45 rfl ?_
              intro b18 w18 hs
              first | refine R.cstoreAll hs rfl rfl Tryd.sz45 (by first | rfl | assumption | exact encV_len _ | exact Enc.len _ | exact len_ub (by assumption) | simp [*]) (by first | rfl | assumption | exact encV_len _ | exact Enc.len _ | exact len_ub (by assumption) | simp [*]) (by first | assumption | exact OneL.all | exact Enc.one _ | exact ub_all _ | (repeat' (first | refine List.forall_mem_cons.2 ⟨?_, ?_⟩ | exact List.forall_mem_nil _ | rfl | exact OneC.one | exact KRow.oneC' (by assumption)))) ?_ | refine R.cstore hs rfl rfl Tryd.sz45 (by first | rfl | assumption | exact encV_len _ | exact Enc.len _ | exact len_ub (by assumption) | simp [*]) (by simp [*]) (by first | assumption | exact OneL.all | exact Enc.one _ | exact ub_all _ | (repeat' (first | refine List.forall_mem_cons.2 ⟨?_, ?_⟩ | exact List.forall_mem_nil _ | rfl | exact OneC.one | exact KRow.oneC' (by assumption)))) ?_
              intro w18_7 hs
              try simp only [List.set_cons_zero, List.set_cons_succ] at hs
              refine R.ev rfl (E.assign rfl) ?_
              refine R.ev rfl (E.assign rfl) ?_
              refine R.done ?_
              refine X.keep [(1, _), (5, _), (7, _), (8, _), (9, _), (10, _), (11, _), (12, _), (13, _), (14, _), (15, _), (16, _), (17, _), (18, _)] ⟨rfl, rfl, rfl, rfl, rfl, rfl, rfl, rfl, rfl, rfl, rfl, rfl, rfl, rfl, trivial⟩ ?_
              refine X.next ?_
              refine C.seq ?_
              refine C.region ?_
              first | refine R.ev rfl (E.fieldAddr0 32 rfl Tryd.underlying45 rfl Tryd.sz29 rfl) ?_ | refine R.ev rfl (E.fieldAddrN 32 rfl Tryd.underlying45 rfl Tryd.sz29 rfl) ?_
              refine R.ev rfl (E.loadRowC rfl Tryd.underlying29 rfl Tryd.sz29 (by first | exact ⟨hs.ldA, by first | rfl | assumption | exact encV_len _ | exact Enc.len _ | exact len_ub (by assumption)⟩ | exact ⟨hs.ldP rfl, by first | rfl | assumption | exact encV_len _ | exact Enc.len _ | exact len_ub (by assumption)⟩ | exact ⟨hs.ldM rfl rfl, by first | rfl | assumption | exact encV_len _ | exact Enc.len _ | exact len_ub (by assumption)⟩ | exact ⟨hs.ldM (by assumption) (by first | rfl | assumption), by first | rfl | assumption | exact encV_len _ | exact Enc.len _ | exact len_ub (by assumption)⟩ | exact ⟨by assumption, by first | rfl | assumption | exact encV_len _ | exact Enc.len _ | exact len_ub (by assumption)⟩ | exact hs.ldp | exact At.partC (by assumption))) ?_
              refine R.ev rfl (E.loadRowC rfl Tryd.underlying29 rfl Tryd.sz29 (by first | exact ⟨hs.ldA, by first | rfl | assumption | exact encV_len _ | exact Enc.len _ | exact len_ub (by assumption)⟩ | exact ⟨hs.ldP rfl, by first | rfl | assumption | exact encV_len _ | exact Enc.len _ | exact len_ub (by assumption)⟩ | exact ⟨hs.ldM rfl rfl, by first | rfl | assumption | exact encV_len _ | exact Enc.len _ | exact len_ub (by assumption)⟩ | exact ⟨hs.ldM (by assumption) (by first | rfl | assumption), by first | rfl | assumption | exact encV_len _ | exact Enc.len _ | exact len_ub (by assumption)⟩ | exact ⟨by assumption, by first | rfl | assumption | exact encV_len _ | exact Enc.len _ | exact len_ub (by assumption)⟩ | exact hs.ldp | exact At.partC (by assumption))) ?_
              refine R.ev rfl ((E.eqV 10 (a := (rkR { y with id := UInt8.ofNat (y.id.toNat % 13) }).au) (b := hA) rfl rfl Tryd.lv29 rfl Tryd.underlying29 rfl Tryd.gd29)) ?_
              refine R.done ?_
              refine X.keep [(1, _), (5, _), (7, _), (8, _), (9, _), (10, _), (11, _), (12, _), (13, _), (14, _), (15, _), (16, _), (17, _), (110, _)] ⟨rfl, rfl, rfl, rfl, rfl, rfl, rfl, rfl, rfl, rfl, rfl, rfl, rfl, rfl, trivial⟩ ?_
              refine X.next ?_
              refine C.cdec rfl (fun h110 => ?_) (fun h110 => ?_)
              · refine C.exit ?_
                refine X.cutExit ?_
                refine X.blockOther rfl ?_
                refine X.thenExit ?_
                refine X.blockExit ?_
                refine X.next ?_
                refine C.region ?_
                refine R.ev rfl (E.move rfl) ?_
                refine R.ev rfl (E.add rfl rfl (by omega) (by omega)) ?_
                refine R.ev rfl (E.assign rfl) ?_
                refine R.done ?_
                refine X.keep [(1, _), (5, _), (7, _), (8, _), (9, _), (10, _), (11, _), (12, _), (13, _), (14, _), (15, _), (16, _)] ⟨rfl, rfl, rfl, rfl, rfl, rfl, rfl, rfl, rfl, rfl, rfl, rfl, trivial⟩ ?_
                first
                  | exact X.again (i + 1, K4, MK4, MR4, stepL L mv, v4, (c0, c1, c2), F4) ⟨rfl, rfl, rfl, rfl, rfl, rfl, rfl, rfl, rfl, rfl, rfl, rfl, trivial⟩ ⟨by omega, hkc4, hr4, hI4, by omega, hw4, hH4, hs.to⟩ (by show _ - _ < _ - _; omega)
                  | exact X.again (i + 1, K1, MK, MR, L, v, (b0, b1, b2), F1) ⟨rfl, rfl, rfl, rfl, rfl, rfl, rfl, rfl, rfl, rfl, rfl, rfl, trivial⟩ ⟨by omega, hk1, hrv, hI, by omega, hw1, hH, hs.to⟩ (by show _ - _ < _ - _; omega)
              · refine C.skip ?_
                first
                  | exact X.cut (y) ⟨rfl, rfl, rfl, rfl, rfl, rfl, rfl, rfl, rfl, rfl, rfl, rfl, rfl, trivial⟩ ⟨.inl my, hs.to⟩
                  | exact X.cut (_) ⟨rfl, rfl, rfl, rfl, rfl, rfl, rfl, rfl, rfl, rfl, rfl, rfl, rfl, trivial⟩ ⟨.inr ⟨h110, by show (UInt8.ofNat (y.id.toNat % 13)).toNat < 13; rw [u8_toNat (by omega)]; omega⟩, hs.to⟩
            · refine C.exit ?_
              refine X.cutExit ?_
              refine X.blockOther rfl ?_
              refine X.thenExit ?_
              refine X.blockExit ?_
              refine X.next ?_
              refine C.region ?_
              refine R.ev rfl (E.move rfl) ?_
              refine R.ev rfl (E.add rfl rfl (by omega) (by omega)) ?_
              refine R.ev rfl (E.assign rfl) ?_
              refine R.done ?_
              refine X.keep [(1, _), (5, _), (7, _), (8, _), (9, _), (10, _), (11, _), (12, _), (13, _), (14, _), (15, _), (16, _)] ⟨rfl, rfl, rfl, rfl, rfl, rfl, rfl, rfl, rfl, rfl, rfl, rfl, trivial⟩ ?_
              first
                | exact X.again (i + 1, K4, MK4, MR4, stepL L mv, v4, (c0, c1, c2), F4) ⟨rfl, rfl, rfl, rfl, rfl, rfl, rfl, rfl, rfl, rfl, rfl, rfl, trivial⟩ ⟨by omega, hkc4, hr4, hI4, by omega, hw4, hH4, hs.to⟩ (by show _ - _ < _ - _; omega)
                | exact X.again (i + 1, K1, MK, MR, L, v, (b0, b1, b2), F1) ⟨rfl, rfl, rfl, rfl, rfl, rfl, rfl, rfl, rfl, rfl, rfl, rfl, trivial⟩ ⟨by omega, hk1, hrv, hI, by omega, hw1, hH, hs.to⟩ (by show _ - _ < _ - _; omega)
        · rintro mv w8 ⟨hmv, hs⟩
          refine X.keep [(1, _), (5, _), (7, _), (8, _), (9, _), (10, _), (11, _), (12, _), (13, _), (14, _), (15, _), (16, _), (17, _)] ⟨rfl, rfl, rfl, rfl, rfl, rfl, rfl, rfl, rfl, rfl, rfl, rfl, rfl, trivial⟩ ?_
          refine X.blockNormal ?_
          refine X.next ?_
          refine C.seq ?_
          refine C.region ?_
          refine R.ev rfl (E.move rfl) ?_
          refine R.ev rfl (E.move rfl) ?_
          refine R.ev rfl (E.loadRowC rfl Tryd.underlying41 rfl Tryd.sz41 (by first | exact ⟨hs.ldA, by first | rfl | assumption | exact encV_len _ | exact Enc.len _ | exact len_ub (by assumption)⟩ | exact ⟨hs.ldP rfl, by first | rfl | assumption | exact encV_len _ | exact Enc.len _ | exact len_ub (by assumption)⟩ | exact ⟨hs.ldM rfl rfl, by first | rfl | assumption | exact encV_len _ | exact Enc.len _ | exact len_ub (by assumption)⟩ | exact ⟨hs.ldM (by assumption) (by first | rfl | assumption), by first | rfl | assumption | exact encV_len _ | exact Enc.len _ | exact len_ub (by assumption)⟩ | exact ⟨by assumption, by first | rfl | assumption | exact encV_len _ | exact Enc.len _ | exact len_ub (by assumption)⟩ | exact hs.ldp | exact At.partC (by assumption))) ?_
          refine R.call ⟨_, _, Tryd.func20, rfl, by kernel_rfl⟩ rfl rfl (ladd_any mv hI (by omega) (hs.front (F := F1))) ?_
          rintro _ w20 ⟨K4, v4, MK4, MR4, F4, rfl, hk4, hr4, hI4, hw4, hs1⟩
          have hs := hs.back (F := F1) hs1
          have hsl := (step_len L mv).1
          obtain ⟨c0, c1, c2, hH4, g0, g1, g2⟩ := hon_step hH hmv
          have hkc4 : KLe (Kn.of w) K4 := hk1.trans hk4
          refine R.ev rfl (E.move rfl) ?_
          refine R.ev rfl (E.extract rfl rfl) ?_
          refine R.ev rfl (E.extract rfl rfl) ?_
          refine R.ev rfl (E.assign rfl) ?_
          refine R.done ?_
          refine X.keep [(1, _), (5, _), (7, _), (8, _), (9, _), (10, _), (11, _), (12, _), (13, _), (14, _), (15, _), (16, _)] ⟨rfl, rfl, rfl, rfl, rfl, rfl, rfl, rfl, rfl, rfl, rfl, rfl, trivial⟩ ?_
          refine X.next ?_
          refine C.seq ?_
          refine C.drawn (SatS hs) ([1, 3, 6], [0, 2, 5, 8]) (by kernel_rfl) ?_
          have hs := hs.drew
          refine D.evP 0 rfl (by kernel_rfl) rfl (fun _ => hs.to) (fun _ => E.move rfl) ?_
          refine D.evP 2 rfl (by kernel_rfl) rfl (fun _ => hs.to) (fun _ => E.move rfl) ?_
          refine D.evP 5 rfl (by kernel_rfl) rfl (fun _ => hs.to) (fun _ => E.move rfl) ?_
          refine D.ev 1 rfl (by kernel_rfl) rfl hs.to (fun _ hS => E.loadRowC rfl Tryd.underlying29 rfl Tryd.sz29 (by first | exact ⟨hS.ldA, by first | rfl | assumption | exact encV_len _ | exact Enc.len _ | exact len_ub (by assumption)⟩ | exact ⟨hS.ldP rfl, by first | rfl | assumption | exact encV_len _ | exact Enc.len _ | exact len_ub (by assumption)⟩ | exact ⟨hS.ldM rfl rfl, by first | rfl | assumption | exact encV_len _ | exact Enc.len _ | exact len_ub (by assumption)⟩ | exact ⟨hS.ldM (by assumption) (by first | rfl | assumption), by first | rfl | assumption | exact encV_len _ | exact Enc.len _ | exact len_ub (by assumption)⟩ | exact ⟨by assumption, by first | rfl | assumption | exact encV_len _ | exact Enc.len _ | exact len_ub (by assumption)⟩ | exact ⟨(by assumption : ∀ w', Sat _ w' _ → At w' _ _ _) _ hS, by first | rfl | assumption | exact encV_len _ | exact Enc.len _ | exact len_ub (by assumption)⟩ | exact hS.ldp | exact At.partC (by assumption) | exact At.partC ((by assumption : ∀ w', Sat _ w' _ → At w' _ _ _) _ hS))) ?_
          refine D.ev 3 rfl (by kernel_rfl) rfl hs.to (fun _ hS => E.loadRowC rfl Tryd.underlying32 rfl Tryd.sz32 (by first | exact ⟨hS.ldA, by first | rfl | assumption | exact encV_len _ | exact Enc.len _ | exact len_ub (by assumption)⟩ | exact ⟨hS.ldP rfl, by first | rfl | assumption | exact encV_len _ | exact Enc.len _ | exact len_ub (by assumption)⟩ | exact ⟨hS.ldM rfl rfl, by first | rfl | assumption | exact encV_len _ | exact Enc.len _ | exact len_ub (by assumption)⟩ | exact ⟨hS.ldM (by assumption) (by first | rfl | assumption), by first | rfl | assumption | exact encV_len _ | exact Enc.len _ | exact len_ub (by assumption)⟩ | exact ⟨by assumption, by first | rfl | assumption | exact encV_len _ | exact Enc.len _ | exact len_ub (by assumption)⟩ | exact ⟨(by assumption : ∀ w', Sat _ w' _ → At w' _ _ _) _ hS, by first | rfl | assumption | exact encV_len _ | exact Enc.len _ | exact len_ub (by assumption)⟩ | exact hS.ldp | exact At.partC (by assumption) | exact At.partC ((by assumption : ∀ w', Sat _ w' _ → At w' _ _ _) _ hS))) ?_
          refine D.ev 6 rfl (by kernel_rfl) rfl hs.to (fun _ hS => E.loadRowC rfl Tryd.underlying34 rfl Tryd.sz34 (by first | exact ⟨hS.ldA, by first | rfl | assumption | exact encV_len _ | exact Enc.len _ | exact len_ub (by assumption)⟩ | exact ⟨hS.ldP rfl, by first | rfl | assumption | exact encV_len _ | exact Enc.len _ | exact len_ub (by assumption)⟩ | exact ⟨hS.ldM rfl rfl, by first | rfl | assumption | exact encV_len _ | exact Enc.len _ | exact len_ub (by assumption)⟩ | exact ⟨hS.ldM (by assumption) (by first | rfl | assumption), by first | rfl | assumption | exact encV_len _ | exact Enc.len _ | exact len_ub (by assumption)⟩ | exact ⟨by assumption, by first | rfl | assumption | exact encV_len _ | exact Enc.len _ | exact len_ub (by assumption)⟩ | exact ⟨(by assumption : ∀ w', Sat _ w' _ → At w' _ _ _) _ hS, by first | rfl | assumption | exact encV_len _ | exact Enc.len _ | exact len_ub (by assumption)⟩ | exact hS.ldp | exact At.partC (by assumption) | exact At.partC ((by assumption : ∀ w', Sat _ w' _ → At w' _ _ _) _ hS))) ?_
          refine D.act 4 rfl (by kernel_rfl) ?_
          refine R.call ⟨_, _, Tryd.func16, rfl, by kernel_rfl⟩ rfl rfl (to_any q hs) ?_
          rintro _ w21 ⟨rfl, hs⟩
          refine D.back hs.to ?_
          refine D.act 7 rfl (by kernel_rfl) ?_
          refine R.call ⟨_, _, Tryd.func15, rfl, by kernel_rfl⟩ rfl rfl (judge_any hA n q lf id hI4 (by omega) hs) ?_
          rintro _ w217 ⟨c, rfl, hc, hs⟩
          obtain rfl : c = honC l0 l1 l2 c0 c1 c2 := ChA.det hI4.ok.inj (fun _ _ => Iff.rfl) hc hH4.chain
          have hturn := hon_turn (l0 := l0) (l1 := l1) (l2 := l2) g0 g1 g2 hn4 hqf (leaf := lf) (id := id)
          refine D.backT (by kernel_rfl) ?_
          refine D.evP 8 rfl (by kernel_rfl) rfl (np (by kernel_rfl)) (fun _ => E.assign rfl) ?_
          refine D.done rfl (by kernel_rfl) ?_
          refine X.keep [(1, _), (5, _), (7, _), (8, _), (9, _), (10, _), (11, _), (12, _), (13, _), (14, _), (15, _), (16, _), (21, _)] ⟨rfl, rfl, rfl, rfl, rfl, rfl, rfl, rfl, rfl, rfl, rfl, rfl, rfl, trivial⟩ ?_
          refine X.next ?_
          refine C.seq ?_
          refine C.seq ?_
          refine C.region ?_
          refine R.ev rfl (E.move rfl) ?_
          refine R.ev rfl (E.move rfl) ?_
          refine R.ev rfl (E.eql rfl rfl) ?_
          refine R.ev rfl (E.move rfl) ?_
          refine R.split 129 rfl (fun h129 => ?_) (fun h129 => ?_)
          · refine R.gskip rfl rfl rfl ?_
            refine R.gskip rfl rfl rfl ?_
            refine R.ev rfl (E.pickT rfl rfl) ?_
            refine R.done ?_
            refine X.keep [(1, _), (5, _), (7, _), (8, _), (9, _), (10, _), (11, _), (12, _), (13, _), (14, _), (15, _), (16, _), (21, _), (132, _)] ⟨rfl, rfl, rfl, rfl, rfl, rfl, rfl, rfl, rfl, rfl, rfl, rfl, rfl, rfl, trivial⟩ ?_
            refine X.next ?_
            refine C.ctrue rfl ?_
            refine C.seq ?_
            refine C.region ?_
            refine R.ev rfl (E.move rfl) ?_
            refine R.ev rfl (E.assign rfl) ?_
            refine R.done ?_
            refine X.keep [(1, _), (5, _), (7, _), (8, _), (9, _), (10, _), (11, _), (12, _), (13, _), (14, _), (15, _), (16, _)] ⟨rfl, rfl, rfl, rfl, rfl, rfl, rfl, rfl, rfl, rfl, rfl, rfl, trivial⟩ ?_
            refine X.next ?_
            refine C.exit ?_
            refine X.thenExit ?_
            refine X.blockExit ?_
            refine X.next ?_
            refine C.region ?_
            refine R.ev rfl (E.move rfl) ?_
            refine R.ev rfl (E.add rfl rfl (by omega) (by omega)) ?_
            refine R.ev rfl (E.assign rfl) ?_
            refine R.done ?_
            refine X.keep [(1, _), (5, _), (7, _), (8, _), (9, _), (10, _), (11, _), (12, _), (13, _), (14, _), (15, _), (16, _)] ⟨rfl, rfl, rfl, rfl, rfl, rfl, rfl, rfl, rfl, rfl, rfl, rfl, trivial⟩ ?_
            first
              | exact X.again (i + 1, K4, MK4, MR4, stepL L mv, v4, (c0, c1, c2), F4) ⟨rfl, rfl, rfl, rfl, rfl, rfl, rfl, rfl, rfl, rfl, rfl, rfl, trivial⟩ ⟨by omega, hkc4, hr4, hI4, by omega, hw4, hH4, hs.to⟩ (by show _ - _ < _ - _; omega)
              | exact X.again (i + 1, K1, MK, MR, L, v, (b0, b1, b2), F1) ⟨rfl, rfl, rfl, rfl, rfl, rfl, rfl, rfl, rfl, rfl, rfl, rfl, trivial⟩ ⟨by omega, hk1, hrv, hI, by omega, hw1, hH, hs.to⟩ (by show _ - _ < _ - _; omega)
          · refine R.gyes rfl rfl ?_
            refine R.ev rfl (E.move rfl) ?_
            refine R.gyes rfl rfl ?_
            refine R.ev rfl (E.eql rfl rfl) ?_
            refine R.ev rfl (E.pickF rfl rfl) ?_
            refine R.done ?_
            refine X.keep [(1, _), (5, _), (7, _), (8, _), (9, _), (10, _), (11, _), (12, _), (13, _), (14, _), (15, _), (16, _), (21, _), (132, _)] ⟨rfl, rfl, rfl, rfl, rfl, rfl, rfl, rfl, rfl, rfl, rfl, rfl, rfl, rfl, trivial⟩ ?_
            refine X.next ?_
            refine C.cbool rfl (fun h132 => ?_) (fun h132 => ?_)
            · refine C.seq ?_
              refine C.region ?_
              refine R.ev rfl (E.move rfl) ?_
              refine R.ev rfl (E.assign rfl) ?_
              refine R.done ?_
              refine X.keep [(1, _), (5, _), (7, _), (8, _), (9, _), (10, _), (11, _), (12, _), (13, _), (14, _), (15, _), (16, _)] ⟨rfl, rfl, rfl, rfl, rfl, rfl, rfl, rfl, rfl, rfl, rfl, rfl, trivial⟩ ?_
              refine X.next ?_
              refine C.exit ?_
              refine X.thenExit ?_
              refine X.blockExit ?_
              refine X.next ?_
              refine C.region ?_
              refine R.ev rfl (E.move rfl) ?_
              refine R.ev rfl (E.add rfl rfl (by omega) (by omega)) ?_
              refine R.ev rfl (E.assign rfl) ?_
              refine R.done ?_
              refine X.keep [(1, _), (5, _), (7, _), (8, _), (9, _), (10, _), (11, _), (12, _), (13, _), (14, _), (15, _), (16, _)] ⟨rfl, rfl, rfl, rfl, rfl, rfl, rfl, rfl, rfl, rfl, rfl, rfl, trivial⟩ ?_
              first
                | exact X.again (i + 1, K4, MK4, MR4, stepL L mv, v4, (c0, c1, c2), F4) ⟨rfl, rfl, rfl, rfl, rfl, rfl, rfl, rfl, rfl, rfl, rfl, rfl, trivial⟩ ⟨by omega, hkc4, hr4, hI4, by omega, hw4, hH4, hs.to⟩ (by show _ - _ < _ - _; omega)
                | exact X.again (i + 1, K1, MK, MR, L, v, (b0, b1, b2), F1) ⟨rfl, rfl, rfl, rfl, rfl, rfl, rfl, rfl, rfl, rfl, rfl, rfl, trivial⟩ ⟨by omega, hk1, hrv, hI, by omega, hw1, hH, hs.to⟩ (by show _ - _ < _ - _; omega)
            · refine C.skip ?_
              refine X.next ?_
              refine C.seq ?_
              refine C.region ?_
              obtain ⟨hz, hx3, ky, _, hnl, hky, hlim⟩ : judge (honC l0 l1 l2 b0 b1 b2) hA n q lf id = 0 ∧ judge (honC l0 l1 l2 c0 c1 c2) hA n q lf id = 3 ∧ ∃ k, 0 ≤ (n : Int) ∧ (n : Int) < (honC l0 l1 l2 c0 c1 c2).length ∧ (honC l0 l1 l2 c0 c1 c2)[(n : Int).toNat]? = some k ∧ k.lim ≤ lf := by
                rcases hturn with h | h | ⟨h1, h2, h3⟩
                · exact absurd h (of_decide_eq_false h129)
                · exact absurd h (of_decide_eq_false h132)
                · exact ⟨h1, h2, h3⟩
              have hin : inC (honC l0 l1 l2 c0 c1 c2) n = true := decide_eq_true ⟨by omega, hnl⟩
              have hkat := kyAt_get hin hky
              refine R.ev rfl (E.move rfl) ?_
              refine R.ev rfl (E.loadRowC rfl Tryd.underlying29 rfl Tryd.sz29 (by first | exact ⟨hs.ldA, by first | rfl | assumption | exact encV_len _ | exact Enc.len _ | exact len_ub (by assumption)⟩ | exact ⟨hs.ldP rfl, by first | rfl | assumption | exact encV_len _ | exact Enc.len _ | exact len_ub (by assumption)⟩ | exact ⟨hs.ldM rfl rfl, by first | rfl | assumption | exact encV_len _ | exact Enc.len _ | exact len_ub (by assumption)⟩ | exact ⟨hs.ldM (by assumption) (by first | rfl | assumption), by first | rfl | assumption | exact encV_len _ | exact Enc.len _ | exact len_ub (by assumption)⟩ | exact ⟨by assumption, by first | rfl | assumption | exact encV_len _ | exact Enc.len _ | exact len_ub (by assumption)⟩ | exact hs.ldp | exact At.partC (by assumption))) ?_
              refine R.ev rfl (E.move rfl) ?_
              refine R.call ⟨_, _, Tryd.func24, rfl, by kernel_rfl⟩ rfl rfl (key_any hA n hI4 (by omega) hs) ?_
              rintro _ w24 ⟨d, rfl, hd, hs⟩
              obtain rfl : d = honC l0 l1 l2 c0 c1 c2 := ChA.det hI4.ok.inj (fun _ _ => Iff.rfl) hd hH4.chain
              rw [hkat, hin]
              refine R.ev rfl (E.move rfl) ?_
              refine R.ev rfl (E.extract rfl rfl) ?_
              refine R.ev rfl (E.extract rfl rfl) ?_
              refine R.sallocA hs Tryd.zr61 rfl ?_
              intro b22 w22 hs
              first | refine R.cstoreAll hs rfl rfl Tryd.sz61 (by first | rfl | assumption | exact encV_len _ | exact Enc.len _ | exact len_ub (by assumption) | simp [*]) (by first | rfl | assumption | exact encV_len _ | exact Enc.len _ | exact len_ub (by assumption) | simp [*]) (by first | assumption | exact OneL.all | exact Enc.one _ | exact ub_all _ | (repeat' (first | refine List.forall_mem_cons.2 ⟨?_, ?_⟩ | exact List.forall_mem_nil _ | rfl | exact OneC.one | exact KRow.oneC' (by assumption)))) ?_ | refine R.cstore hs rfl rfl Tryd.sz61 (by first | rfl | assumption | exact encV_len _ | exact Enc.len _ | exact len_ub (by assumption) | simp [*]) (by simp [*]) (by first | assumption | exact OneL.all | exact Enc.one _ | exact ub_all _ | (repeat' (first | refine List.forall_mem_cons.2 ⟨?_, ?_⟩ | exact List.forall_mem_nil _ | rfl | exact OneC.one | exact KRow.oneC' (by assumption)))) ?_
              intro w24_8 hs
              try simp only [List.set_cons_zero, List.set_cons_succ] at hs
              refine R.ev rfl (E.assign rfl) ?_
              refine R.done ?_
              refine X.keep [(1, _), (5, _), (7, _), (8, _), (9, _), (10, _), (11, _), (12, _), (13, _), (14, _), (15, _), (16, _), (21, _), (22, _), (23, _)] ⟨rfl, rfl, rfl, rfl, rfl, rfl, rfl, rfl, rfl, rfl, rfl, rfl, rfl, rfl, rfl, trivial⟩ ?_
              refine X.next ?_
              refine C.seq ?_
              refine C.seq ?_
              refine C.region ?_
              refine R.ev rfl (E.move rfl) ?_
              refine R.ev rfl ((E.neq rfl rfl).isF (fun h => h hz)) ?_
              refine R.ev rfl (E.move rfl) ?_
              refine R.gyes rfl rfl ?_
              refine R.ev rfl (E.move rfl) ?_
              refine R.gyes rfl rfl ?_
              refine R.ev rfl ((E.neq rfl rfl).isF (fun h => h hx3)) ?_
              refine R.ev rfl (E.pickF rfl rfl) ?_
              refine R.ev rfl (E.move rfl) ?_
              refine R.gyes rfl rfl ?_
              refine R.ev rfl (E.move rfl) ?_
              refine R.gyes rfl rfl ?_
              refine R.ev rfl (E.notT rfl) ?_
              refine R.ev rfl (E.pickF rfl rfl) ?_
              refine R.ev rfl (E.move rfl) ?_
              refine R.gyes rfl rfl ?_
              refine R.ev rfl (E.move rfl) ?_
              refine R.gyes rfl rfl ?_
              first | refine R.ev rfl (E.fieldAddr0 18 rfl Tryd.underlying61 rfl Tryd.sz3 rfl) ?_ | refine R.ev rfl (E.fieldAddrN 18 rfl Tryd.underlying61 rfl Tryd.sz3 rfl) ?_
              refine R.gyes rfl rfl ?_
              refine R.ev rfl (E.load1 rfl Tryd.underlying3 rfl (by first | exact hs.ldc | exact hs.ld rfl | exact hs.ld (by assumption) | exact by assumption | exact At.cellC (by assumption))) ?_
              refine R.gyes rfl rfl ?_
              refine R.ev rfl ((E.lss rfl rfl).isF (by omega)) ?_
              refine R.ev rfl (E.pickF rfl rfl) ?_
              refine R.done ?_
              refine X.keep [(1, _), (5, _), (7, _), (8, _), (9, _), (10, _), (11, _), (12, _), (13, _), (14, _), (16, _), (21, _), (156, _)] ⟨rfl, rfl, rfl, rfl, rfl, rfl, rfl, rfl, rfl, rfl, rfl, rfl, rfl, trivial⟩ ?_
              refine X.next ?_
              refine C.cfalse rfl ?_
              refine C.skip ?_
              refine X.next ?_
              refine C.region ?_
              refine R.ev rfl (E.move rfl) ?_
              refine R.ev rfl (E.assign rfl) ?_
              refine R.done ?_
              refine X.keep [(1, _), (5, _), (7, _), (8, _), (9, _), (10, _), (11, _), (12, _), (13, _), (14, _), (15, _), (16, _)] ⟨rfl, rfl, rfl, rfl, rfl, rfl, rfl, rfl, rfl, rfl, rfl, rfl, trivial⟩ ?_
              refine X.blockNormal ?_
              refine X.next ?_
              refine C.region ?_
              refine R.ev rfl (E.move rfl) ?_
              refine R.ev rfl (E.add rfl rfl (by omega) (by omega)) ?_
              refine R.ev rfl (E.assign rfl) ?_
              refine R.done ?_
              refine X.keep [(1, _), (5, _), (7, _), (8, _), (9, _), (10, _), (11, _), (12, _), (13, _), (14, _), (15, _), (16, _)] ⟨rfl, rfl, rfl, rfl, rfl, rfl, rfl, rfl, rfl, rfl, rfl, rfl, trivial⟩ ?_
              first
                | exact X.again (i + 1, K4, MK4, MR4, stepL L mv, v4, (c0, c1, c2), F4) ⟨rfl, rfl, rfl, rfl, rfl, rfl, rfl, rfl, rfl, rfl, rfl, rfl, trivial⟩ ⟨by omega, hkc4, hr4, hI4, by omega, hw4, hH4, hs.to⟩ (by show _ - _ < _ - _; omega)
                | exact X.again (i + 1, K1, MK, MR, L, v, (b0, b1, b2), F1) ⟨rfl, rfl, rfl, rfl, rfl, rfl, rfl, rfl, rfl, rfl, rfl, rfl, trivial⟩ ⟨by omega, hk1, hrv, hI, by omega, hw1, hH, hs.to⟩ (by show _ - _ < _ - _; omega)
      · refine R.gskip rfl rfl rfl ?_
        refine R.gskip rfl rfl rfl ?_
        refine R.gskip rfl rfl rfl ?_
        refine R.ev rfl (E.pickF rfl rfl) ?_
        refine R.ev rfl (E.assign rfl) ?_
        refine R.done ?_
        refine X.keep [(1, _), (5, _), (7, _), (8, _), (9, _), (10, _), (11, _), (12, _), (13, _), (14, _), (15, _), (16, _), (17, _), (69, _)] ⟨rfl, rfl, rfl, rfl, rfl, rfl, rfl, rfl, rfl, rfl, rfl, rfl, rfl, rfl, trivial⟩ ?_
        refine X.next ?_
        refine C.cut [(1, _), (5, _), (7, _), (8, _), (9, _), (10, _), (11, _), (12, _), (13, _), (14, _), (15, _), (16, _), (17, _)] (fun (mv : Mv) => []) (fun mv w' => (mv ∈ owns l0 l1 l2 ∨ ((rkR mv).au ≠ hA ∧ mv.id.toNat < 13)) ∧ Sat K1 w' (row b17 41 (encMv mv) :: row b14 34 (id.1.map ub) :: row b12 32 (encP q) :: F1 :: row b37 41 ((owns l0 l1 l2).flatMap encMv) :: row b7 29 (hA.1.map ub) :: row b5 57 ([p0, p1, p2, p3].map ub) :: [])) ⟨rfl, rfl, rfl, rfl, rfl, rfl, rfl, rfl, rfl, rfl, rfl, rfl, rfl, trivial⟩ ?_ ?_
        · refine C.cfalse rfl ?_
          refine C.seq ?_
          refine C.region ?_
          refine R.ev rfl (E.move rfl) ?_
          refine R.ev rfl (E.move rfl) ?_
          refine R.ev rfl (E.lenSl rfl Tryd.underlying22) ?_
          refine R.ev rfl (E.lss rfl rfl) ?_
          refine R.ev rfl (E.assign rfl) ?_
          refine R.done ?_
          refine X.keep [(1, _), (5, _), (7, _), (8, _), (9, _), (10, _), (11, _), (12, _), (13, _), (14, _), (15, _), (16, _), (17, _), (88, _)] ⟨rfl, rfl, rfl, rfl, rfl, rfl, rfl, rfl, rfl, rfl, rfl, rfl, rfl, rfl, trivial⟩ ?_
          refine X.next ?_
          refine C.cdec rfl (fun h88 => ?_) (fun h88 => ?_)
          · obtain ⟨y, bk_y, of_y, hy, my, ly, rfl, Ay⟩ := (hs.to (Hs := [])).el (i := i) (ad := ad) (n := ms.length) (c := cap) (by omega)
            have ay := Ay _ hs.to
            refine C.seq ?_
            refine C.region ?_
            refine R.ev rfl (E.move rfl) ?_
            refine R.ev rfl (E.move rfl) ?_
            refine R.ev rfl (E.indexAddr (i := i) rfl rfl Tryd.underlying22 Tryd.sz41 rfl (by omega)) ?_
            refine R.ev rfl (E.loadRowC rfl Tryd.underlying41 rfl Tryd.sz41 (by first | exact ⟨hs.ldA, by first | rfl | assumption | exact encV_len _ | exact Enc.len _ | exact len_ub (by assumption)⟩ | exact ⟨hs.ldP rfl, by first | rfl | assumption | exact encV_len _ | exact Enc.len _ | exact len_ub (by assumption)⟩ | exact ⟨hs.ldM rfl rfl, by first | rfl | assumption | exact encV_len _ | exact Enc.len _ | exact len_ub (by assumption)⟩ | exact ⟨hs.ldM (by assumption) (by first | rfl | assumption), by first | rfl | assumption | exact encV_len _ | exact Enc.len _ | exact len_ub (by assumption)⟩ | exact ⟨by assumption, by first | rfl | assumption | exact encV_len _ | exact Enc.len _ | exact len_ub (by assumption)⟩ | exact hs.ldp | exact At.partC (by assumption))) ?_
            first | refine R.cstoreAll hs rfl rfl Tryd.sz41 (by first | rfl | assumption | exact encV_len _ | exact Enc.len _ | exact len_ub (by assumption) | simp [*]) (by first | rfl | assumption | exact encV_len _ | exact Enc.len _ | exact len_ub (by assumption) | simp [*]) (by first | assumption | exact OneL.all | exact Enc.one _ | exact ub_all _ | (repeat' (first | refine List.forall_mem_cons.2 ⟨?_, ?_⟩ | exact List.forall_mem_nil _ | rfl | exact OneC.one | exact KRow.oneC' (by assumption)))) ?_ | refine R.cstore hs rfl rfl Tryd.sz41 (by first | rfl | assumption | exact encV_len _ | exact Enc.len _ | exact len_ub (by assumption) | simp [*]) (by simp [*]) (by first | assumption | exact OneL.all | exact Enc.one _ | exact ub_all _ | (repeat' (first | refine List.forall_mem_cons.2 ⟨?_, ?_⟩ | exact List.forall_mem_nil _ | rfl | exact OneC.one | exact KRow.oneC' (by assumption)))) ?_
            intro w16_4 hs
            try simp only [List.set_cons_zero, List.set_cons_succ] at hs
            refine R.done ?_
            refine X.keep [(1, _), (5, _), (7, _), (8, _), (9, _), (10, _), (11, _), (12, _), (13, _), (14, _), (15, _), (16, _), (17, _)] ⟨rfl, rfl, rfl, rfl, rfl, rfl, rfl, rfl, rfl, rfl, rfl, rfl, rfl, trivial⟩ ?_
            refine X.next ?_
            refine C.seq ?_
            refine C.region ?_
            first | refine R.ev rfl (E.fieldAddr0 5 rfl Tryd.underlying41 rfl Tryd.sz5 rfl) ?_ | refine R.ev rfl (E.fieldAddrN 5 rfl Tryd.underlying41 rfl Tryd.sz5 rfl) ?_
            refine R.ev rfl (E.load1 rfl Tryd.underlying5 rfl (by first | exact hs.ldc | exact hs.ld rfl | exact hs.ld (by assumption) | exact by assumption | exact At.cellC (by assumption))) ?_
            refine R.ev rfl ((E.rem rfl rfl (by decide) (by omega)).as (u := ub (UInt8.ofNat (y.id.toNat % 13))) (rem_ub (by decide))) ?_
            first | refine R.ev rfl (E.fieldAddr0 5 rfl Tryd.underlying41 rfl Tryd.sz5 rfl) ?_ | refine R.ev rfl (E.fieldAddrN 5 rfl Tryd.underlying41 rfl Tryd.sz5 rfl) ?_
            refine R.cstore1 (b := b17) hs rfl rfl Tryd.sz5 (by rw [Enc.len (enc := encMv)]; decide) rfl ?_
            intro w174 hs
            have hs := Sat.seen (row b17 41 (encMv { y with id := UInt8.ofNat (y.id.toNat % 13) })) rfl hs
            refine R.done ?_
            refine X.keep [(1, _), (5, _), (7, _), (8, _), (9, _), (10, _), (11, _), (12, _), (13, _), (14, _), (15, _), (16, _), (17, _)] ⟨rfl, rfl, rfl, rfl, rfl, rfl, rfl, rfl, rfl, rfl, rfl, rfl, rfl, trivial⟩ ?_
            refine X.next ?_
            refine C.seq ?_
            refine C.region ?_
            refine R.ev rfl (E.loadRowC rfl Tryd.underlying41 rfl Tryd.sz41 (by first | exact ⟨hs.ldA, by first | rfl | assumption | exact encV_len _ | exact Enc.len _ | exact len_ub (by assumption)⟩ | exact ⟨hs.ldP rfl, by first | rfl | assumption | exact encV_len _ | exact Enc.len _ | exact len_ub (by assumption)⟩ | exact ⟨hs.ldM rfl rfl, by first | rfl | assumption | exact encV_len _ | exact Enc.len _ | exact len_ub (by assumption)⟩ | exact ⟨hs.ldM (by assumption) (by first | rfl | assumption), by first | rfl | assumption | exact encV_len _ | exact Enc.len _ | exact len_ub (by assumption)⟩ | exact ⟨by assumption, by first | rfl | assumption | exact encV_len _ | exact Enc.len _ | exact len_ub (by assumption)⟩ | exact hs.ldp | exact At.partC (by assumption))) ?_
            refine R.call ⟨_, _, Tryd.func19, rfl, by kernel_rfl⟩ rfl rfl (rekey_any { y with id := UInt8.ofNat (y.id.toNat % 13) } hs) ?_
            rintro _ w18 ⟨rfl, hs⟩
            have q9 := encO_len (rkR { y with id := UInt8.ofNat (y.id.toNat % 13) })
            have q8 := encV_len (rkR { y with id := UInt8.ofNat (y.id.toNat % 13) }).au
            refine R.ev rfl (E.move rfl) ?_
            refine R.ev rfl (E.extract rfl rfl) ?_
            refine R.ev rfl (E.extract rfl rfl) ?_
            refine R.ev rfl (E.extract rfl rfl) ?_
            refine R.sallocA hs Tryd.zr45 rfl ?_
            intro b18 w18 hs
            first | refine R.cstoreAll hs rfl rfl Tryd.sz45 (by first | rfl | assumption | exact encV_len _ | exact Enc.len _ | exact len_ub (by assumption) | simp [*]) (by first | rfl | assumption | exact encV_len _ | exact Enc.len _ | exact len_ub (by assumption) | simp [*]) (by first | assumption | exact OneL.all | exact Enc.one _ | exact ub_all _ | (repeat' (first | refine List.forall_mem_cons.2 ⟨?_, ?_⟩ | exact List.forall_mem_nil _ | rfl | exact OneC.one | exact KRow.oneC' (by assumption)))) ?_ | refine R.cstore hs rfl rfl Tryd.sz45 (by first | rfl | assumption | exact encV_len _ | exact Enc.len _ | exact len_ub (by assumption) | simp [*]) (by simp [*]) (by first | assumption | exact OneL.all | exact Enc.one _ | exact ub_all _ | (repeat' (first | refine List.forall_mem_cons.2 ⟨?_, ?_⟩ | exact List.forall_mem_nil _ | rfl | exact OneC.one | exact KRow.oneC' (by assumption)))) ?_
            intro w18_7 hs
            try simp only [List.set_cons_zero, List.set_cons_succ] at hs
            refine R.ev rfl (E.assign rfl) ?_
            refine R.ev rfl (E.assign rfl) ?_
            refine R.done ?_
            refine X.keep [(1, _), (5, _), (7, _), (8, _), (9, _), (10, _), (11, _), (12, _), (13, _), (14, _), (15, _), (16, _), (17, _), (18, _)] ⟨rfl, rfl, rfl, rfl, rfl, rfl, rfl, rfl, rfl, rfl, rfl, rfl, rfl, rfl, trivial⟩ ?_
            refine X.next ?_
            refine C.seq ?_
            refine C.region ?_
            first | refine R.ev rfl (E.fieldAddr0 32 rfl Tryd.underlying45 rfl Tryd.sz29 rfl) ?_ | refine R.ev rfl (E.fieldAddrN 32 rfl Tryd.underlying45 rfl Tryd.sz29 rfl) ?_
            refine R.ev rfl (E.loadRowC rfl Tryd.underlying29 rfl Tryd.sz29 (by first | exact ⟨hs.ldA, by first | rfl | assumption | exact encV_len _ | exact Enc.len _ | exact len_ub (by assumption)⟩ | exact ⟨hs.ldP rfl, by first | rfl | assumption | exact encV_len _ | exact Enc.len _ | exact len_ub (by assumption)⟩ | exact ⟨hs.ldM rfl rfl, by first | rfl | assumption | exact encV_len _ | exact Enc.len _ | exact len_ub (by assumption)⟩ | exact ⟨hs.ldM (by assumption) (by first | rfl | assumption), by first | rfl | assumption | exact encV_len _ | exact Enc.len _ | exact len_ub (by assumption)⟩ | exact ⟨by assumption, by first | rfl | assumption | exact encV_len _ | exact Enc.len _ | exact len_ub (by assumption)⟩ | exact hs.ldp | exact At.partC (by assumption))) ?_
            refine R.ev rfl (E.loadRowC rfl Tryd.underlying29 rfl Tryd.sz29 (by first | exact ⟨hs.ldA, by first | rfl | assumption | exact encV_len _ | exact Enc.len _ | exact len_ub (by assumption)⟩ | exact ⟨hs.ldP rfl, by first | rfl | assumption | exact encV_len _ | exact Enc.len _ | exact len_ub (by assumption)⟩ | exact ⟨hs.ldM rfl rfl, by first | rfl | assumption | exact encV_len _ | exact Enc.len _ | exact len_ub (by assumption)⟩ | exact ⟨hs.ldM (by assumption) (by first | rfl | assumption), by first | rfl | assumption | exact encV_len _ | exact Enc.len _ | exact len_ub (by assumption)⟩ | exact ⟨by assumption, by first | rfl | assumption | exact encV_len _ | exact Enc.len _ | exact len_ub (by assumption)⟩ | exact hs.ldp | exact At.partC (by assumption))) ?_
            refine R.ev rfl ((E.eqV 10 (a := (rkR { y with id := UInt8.ofNat (y.id.toNat % 13) }).au) (b := hA) rfl rfl Tryd.lv29 rfl Tryd.underlying29 rfl Tryd.gd29)) ?_
            refine R.done ?_
            refine X.keep [(1, _), (5, _), (7, _), (8, _), (9, _), (10, _), (11, _), (12, _), (13, _), (14, _), (15, _), (16, _), (17, _), (110, _)] ⟨rfl, rfl, rfl, rfl, rfl, rfl, rfl, rfl, rfl, rfl, rfl, rfl, rfl, rfl, trivial⟩ ?_
            refine X.next ?_
            refine C.cdec rfl (fun h110 => ?_) (fun h110 => ?_)
            · refine C.exit ?_
              refine X.cutExit ?_
              refine X.blockOther rfl ?_
              refine X.thenExit ?_
              refine X.blockExit ?_
              refine X.next ?_
              refine C.region ?_
              refine R.ev rfl (E.move rfl) ?_
              refine R.ev rfl (E.add rfl rfl (by omega) (by omega)) ?_
              refine R.ev rfl (E.assign rfl) ?_
              refine R.done ?_
              refine X.keep [(1, _), (5, _), (7, _), (8, _), (9, _), (10, _), (11, _), (12, _), (13, _), (14, _), (15, _), (16, _)] ⟨rfl, rfl, rfl, rfl, rfl, rfl, rfl, rfl, rfl, rfl, rfl, rfl, trivial⟩ ?_
              first
                | exact X.again (i + 1, K4, MK4, MR4, stepL L mv, v4, (c0, c1, c2), F4) ⟨rfl, rfl, rfl, rfl, rfl, rfl, rfl, rfl, rfl, rfl, rfl, rfl, trivial⟩ ⟨by omega, hkc4, hr4, hI4, by omega, hw4, hH4, hs.to⟩ (by show _ - _ < _ - _; omega)
                | exact X.again (i + 1, K1, MK, MR, L, v, (b0, b1, b2), F1) ⟨rfl, rfl, rfl, rfl, rfl, rfl, rfl, rfl, rfl, rfl, rfl, rfl, trivial⟩ ⟨by omega, hk1, hrv, hI, by omega, hw1, hH, hs.to⟩ (by show _ - _ < _ - _; omega)
            · refine C.skip ?_
              first
                | exact X.cut (y) ⟨rfl, rfl, rfl, rfl, rfl, rfl, rfl, rfl, rfl, rfl, rfl, rfl, rfl, trivial⟩ ⟨.inl my, hs.to⟩
                | exact X.cut (_) ⟨rfl, rfl, rfl, rfl, rfl, rfl, rfl, rfl, rfl, rfl, rfl, rfl, rfl, trivial⟩ ⟨.inr ⟨h110, by show (UInt8.ofNat (y.id.toNat % 13)).toNat < 13; rw [u8_toNat (by omega)]; omega⟩, hs.to⟩
          · refine C.exit ?_
            refine X.cutExit ?_
            refine X.blockOther rfl ?_
            refine X.thenExit ?_
            refine X.blockExit ?_
            refine X.next ?_
            refine C.region ?_
            refine R.ev rfl (E.move rfl) ?_
            refine R.ev rfl (E.add rfl rfl (by omega) (by omega)) ?_
            refine R.ev rfl (E.assign rfl) ?_
            refine R.done ?_
            refine X.keep [(1, _), (5, _), (7, _), (8, _), (9, _), (10, _), (11, _), (12, _), (13, _), (14, _), (15, _), (16, _)] ⟨rfl, rfl, rfl, rfl, rfl, rfl, rfl, rfl, rfl, rfl, rfl, rfl, trivial⟩ ?_
            first
              | exact X.again (i + 1, K4, MK4, MR4, stepL L mv, v4, (c0, c1, c2), F4) ⟨rfl, rfl, rfl, rfl, rfl, rfl, rfl, rfl, rfl, rfl, rfl, rfl, trivial⟩ ⟨by omega, hkc4, hr4, hI4, by omega, hw4, hH4, hs.to⟩ (by show _ - _ < _ - _; omega)
              | exact X.again (i + 1, K1, MK, MR, L, v, (b0, b1, b2), F1) ⟨rfl, rfl, rfl, rfl, rfl, rfl, rfl, rfl, rfl, rfl, rfl, rfl, trivial⟩ ⟨by omega, hk1, hrv, hI, by omega, hw1, hH, hs.to⟩ (by show _ - _ < _ - _; omega)
        · rintro mv w8 ⟨hmv, hs⟩
          refine X.keep [(1, _), (5, _), (7, _), (8, _), (9, _), (10, _), (11, _), (12, _), (13, _), (14, _), (15, _), (16, _), (17, _)] ⟨rfl, rfl, rfl, rfl, rfl, rfl, rfl, rfl, rfl, rfl, rfl, rfl, rfl, trivial⟩ ?_
          refine X.blockNormal ?_
          refine X.next ?_
          refine C.seq ?_
          refine C.region ?_
          refine R.ev rfl (E.move rfl) ?_
          refine R.ev rfl (E.move rfl) ?_
          refine R.ev rfl (E.loadRowC rfl Tryd.underlying41 rfl Tryd.sz41 (by first | exact ⟨hs.ldA, by first | rfl | assumption | exact encV_len _ | exact Enc.len _ | exact len_ub (by assumption)⟩ | exact ⟨hs.ldP rfl, by first | rfl | assumption | exact encV_len _ | exact Enc.len _ | exact len_ub (by assumption)⟩ | exact ⟨hs.ldM rfl rfl, by first | rfl | assumption | exact encV_len _ | exact Enc.len _ | exact len_ub (by assumption)⟩ | exact ⟨hs.ldM (by assumption) (by first | rfl | assumption), by first | rfl | assumption | exact encV_len _ | exact Enc.len _ | exact len_ub (by assumption)⟩ | exact ⟨by assumption, by first | rfl | assumption | exact encV_len _ | exact Enc.len _ | exact len_ub (by assumption)⟩ | exact hs.ldp | exact At.partC (by assumption))) ?_
          refine R.call ⟨_, _, Tryd.func20, rfl, by kernel_rfl⟩ rfl rfl (ladd_any mv hI (by omega) (hs.front (F := F1))) ?_
          rintro _ w20 ⟨K4, v4, MK4, MR4, F4, rfl, hk4, hr4, hI4, hw4, hs1⟩
          have hs := hs.back (F := F1) hs1
          have hsl := (step_len L mv).1
          obtain ⟨c0, c1, c2, hH4, g0, g1, g2⟩ := hon_step hH hmv
          have hkc4 : KLe (Kn.of w) K4 := hk1.trans hk4
          refine R.ev rfl (E.move rfl) ?_
          refine R.ev rfl (E.extract rfl rfl) ?_
          refine R.ev rfl (E.extract rfl rfl) ?_
          refine R.ev rfl (E.assign rfl) ?_
          refine R.done ?_
          refine X.keep [(1, _), (5, _), (7, _), (8, _), (9, _), (10, _), (11, _), (12, _), (13, _), (14, _), (15, _), (16, _)] ⟨rfl, rfl, rfl, rfl, rfl, rfl, rfl, rfl, rfl, rfl, rfl, rfl, trivial⟩ ?_
          refine X.next ?_
          refine C.seq ?_
          refine C.drawn (SatS hs) ([1, 3, 6], [0, 2, 5, 8]) (by kernel_rfl) ?_
          have hs := hs.drew
          refine D.evP 0 rfl (by kernel_rfl) rfl (fun _ => hs.to) (fun _ => E.move rfl) ?_
          refine D.evP 2 rfl (by kernel_rfl) rfl (fun _ => hs.to) (fun _ => E.move rfl) ?_
          refine D.evP 5 rfl (by kernel_rfl) rfl (fun _ => hs.to) (fun _ => E.move rfl) ?_
          refine D.ev 1 rfl (by kernel_rfl) rfl hs.to (fun _ hS => E.loadRowC rfl Tryd.underlying29 rfl Tryd.sz29 (by first | exact ⟨hS.ldA, by first | rfl | assumption | exact encV_len _ | exact Enc.len _ | exact len_ub (by assumption)⟩ | exact ⟨hS.ldP rfl, by first | rfl | assumption | exact encV_len _ | exact Enc.len _ | exact len_ub (by assumption)⟩ | exact ⟨hS.ldM rfl rfl, by first | rfl | assumption | exact encV_len _ | exact Enc.len _ | exact len_ub (by assumption)⟩ | exact ⟨hS.ldM (by assumption) (by first | rfl | assumption), by first | rfl | assumption | exact encV_len _ | exact Enc.len _ | exact len_ub (by assumption)⟩ | exact ⟨by assumption, by first | rfl | assumption | exact encV_len _ | exact Enc.len _ | exact len_ub (by assumption)⟩ | exact ⟨(by assumption : ∀ w', Sat _ w' _ → At w' _ _ _) _ hS, by first | rfl | assumption | exact encV_len _ | exact Enc.len _ | exact len_ub (by assumption)⟩ | exact hS.ldp | exact At.partC (by assumption) | exact At.partC ((by assumption : ∀ w', Sat _ w' _ → At w' _ _ _) _ hS))) ?_
          refine D.ev 3 rfl (by kernel_rfl) rfl hs.to (fun _ hS => E.loadRowC rfl Tryd.underlying32 rfl Tryd.sz32 (by first | exact ⟨hS.ldA, by first | rfl | assumption | exact encV_len _ | exact Enc.len _ | exact len_ub (by assumption)⟩ | exact ⟨hS.ldP rfl, by first | rfl | assumption | exact encV_len _ | exact Enc.len _ | exact len_ub (by assumption)⟩ | exact ⟨hS.ldM rfl rfl, by first | rfl | assumption | exact encV_len _ | exact Enc.len _ | exact len_ub (by assumption)⟩ | exact ⟨hS.ldM (by assumption) (by first | rfl | assumption), by first | rfl | assumption | exact encV_len _ | exact Enc.len _ | exact len_ub (by assumption)⟩ | exact ⟨by assumption, by first | rfl | assumption | exact encV_len _ | exact Enc.len _ | exact len_ub (by assumption)⟩ | exact ⟨(by assumption : ∀ w', Sat _ w' _ → At w' _ _ _) _ hS, by first | rfl | assumption | exact encV_len _ | exact Enc.len _ | exact len_ub (by assumption)⟩ | exact hS.ldp | exact At.partC (by assumption) | exact At.partC ((by assumption : ∀ w', Sat _ w' _ → At w' _ _ _) _ hS))) ?_
          refine D.ev 6 rfl (by kernel_rfl) rfl hs.to (fun _ hS => E.loadRowC rfl Tryd.underlying34 rfl Tryd.sz34 (by first | exact ⟨hS.ldA, by first | rfl | assumption | exact encV_len _ | exact Enc.len _ | exact len_ub (by assumption)⟩ | exact ⟨hS.ldP rfl, by first | rfl | assumption | exact encV_len _ | exact Enc.len _ | exact len_ub (by assumption)⟩ | exact ⟨hS.ldM rfl rfl, by first | rfl | assumption | exact encV_len _ | exact Enc.len _ | exact len_ub (by assumption)⟩ | exact ⟨hS.ldM (by assumption) (by first | rfl | assumption), by first | rfl | assumption | exact encV_len _ | exact Enc.len _ | exact len_ub (by assumption)⟩ | exact ⟨by assumption, by first | rfl | assumption | exact encV_len _ | exact Enc.len _ | exact len_ub (by assumption)⟩ | exact ⟨(by assumption : ∀ w', Sat _ w' _ → At w' _ _ _) _ hS, by first | rfl | assumption | exact encV_len _ | exact Enc.len _ | exact len_ub (by assumption)⟩ | exact hS.ldp | exact At.partC (by assumption) | exact At.partC ((by assumption : ∀ w', Sat _ w' _ → At w' _ _ _) _ hS))) ?_
          refine D.act 4 rfl (by kernel_rfl) ?_
          refine R.call ⟨_, _, Tryd.func16, rfl, by kernel_rfl⟩ rfl rfl (to_any q hs) ?_
          rintro _ w21 ⟨rfl, hs⟩
          refine D.back hs.to ?_
          refine D.act 7 rfl (by kernel_rfl) ?_
          refine R.call ⟨_, _, Tryd.func15, rfl, by kernel_rfl⟩ rfl rfl (judge_any hA n q lf id hI4 (by omega) hs) ?_
          rintro _ w217 ⟨c, rfl, hc, hs⟩
          obtain rfl : c = honC l0 l1 l2 c0 c1 c2 := ChA.det hI4.ok.inj (fun _ _ => Iff.rfl) hc hH4.chain
          have hturn := hon_turn (l0 := l0) (l1 := l1) (l2 := l2) g0 g1 g2 hn4 hqf (leaf := lf) (id := id)
          refine D.backT (by kernel_rfl) ?_
          refine D.evP 8 rfl (by kernel_rfl) rfl (np (by kernel_rfl)) (fun _ => E.assign rfl) ?_
          refine D.done rfl (by kernel_rfl) ?_
          refine X.keep [(1, _), (5, _), (7, _), (8, _), (9, _), (10, _), (11, _), (12, _), (13, _), (14, _), (15, _), (16, _), (21, _)] ⟨rfl, rfl, rfl, rfl, rfl, rfl, rfl, rfl, rfl, rfl, rfl, rfl, rfl, trivial⟩ ?_
          refine X.next ?_
          refine C.seq ?_
          refine C.seq ?_
          refine C.region ?_
          refine R.ev rfl (E.move rfl) ?_
          refine R.ev rfl (E.move rfl) ?_
          refine R.ev rfl (E.eql rfl rfl) ?_
          refine R.ev rfl (E.move rfl) ?_
          refine R.split 129 rfl (fun h129 => ?_) (fun h129 => ?_)
          · refine R.gskip rfl rfl rfl ?_
            refine R.gskip rfl rfl rfl ?_
            refine R.ev rfl (E.pickT rfl rfl) ?_
            refine R.done ?_
            refine X.keep [(1, _), (5, _), (7, _), (8, _), (9, _), (10, _), (11, _), (12, _), (13, _), (14, _), (15, _), (16, _), (21, _), (132, _)] ⟨rfl, rfl, rfl, rfl, rfl, rfl, rfl, rfl, rfl, rfl, rfl, rfl, rfl, rfl, trivial⟩ ?_
            refine X.next ?_
            refine C.ctrue rfl ?_
            refine C.seq ?_
            refine C.region ?_
            refine R.ev rfl (E.move rfl) ?_
            refine R.ev rfl (E.assign rfl) ?_
            refine R.done ?_
            refine X.keep [(1, _), (5, _), (7, _), (8, _), (9, _), (10, _), (11, _), (12, _), (13, _), (14, _), (15, _), (16, _)] ⟨rfl, rfl, rfl, rfl, rfl, rfl, rfl, rfl, rfl, rfl, rfl, rfl, trivial⟩ ?_
            refine X.next ?_
            refine C.exit ?_
            refine X.thenExit ?_
            refine X.blockExit ?_
            refine X.next ?_
            refine C.region ?_
            refine R.ev rfl (E.move rfl) ?_
            refine R.ev rfl (E.add rfl rfl (by omega) (by omega)) ?_
            refine R.ev rfl (E.assign rfl) ?_
            refine R.done ?_
            refine X.keep [(1, _), (5, _), (7, _), (8, _), (9, _), (10, _), (11, _), (12, _), (13, _), (14, _), (15, _), (16, _)] ⟨rfl, rfl, rfl, rfl, rfl, rfl, rfl, rfl, rfl, rfl, rfl, rfl, trivial⟩ ?_
            first
              | exact X.again (i + 1, K4, MK4, MR4, stepL L mv, v4, (c0, c1, c2), F4) ⟨rfl, rfl, rfl, rfl, rfl, rfl, rfl, rfl, rfl, rfl, rfl, rfl, trivial⟩ ⟨by omega, hkc4, hr4, hI4, by omega, hw4, hH4, hs.to⟩ (by show _ - _ < _ - _; omega)
              | exact X.again (i + 1, K1, MK, MR, L, v, (b0, b1, b2), F1) ⟨rfl, rfl, rfl, rfl, rfl, rfl, rfl, rfl, rfl, rfl, rfl, rfl, trivial⟩ ⟨by omega, hk1, hrv, hI, by omega, hw1, hH, hs.to⟩ (by show _ - _ < _ - _; omega)
          · refine R.gyes rfl rfl ?_
            refine R.ev rfl (E.move rfl) ?_
            refine R.gyes rfl rfl ?_
            refine R.ev rfl (E.eql rfl rfl) ?_
            refine R.ev rfl (E.pickF rfl rfl) ?_
            refine R.done ?_
            refine X.keep [(1, _), (5, _), (7, _), (8, _), (9, _), (10, _), (11, _), (12, _), (13, _), (14, _), (15, _), (16, _), (21, _), (132, _)] ⟨rfl, rfl, rfl, rfl, rfl, rfl, rfl, rfl, rfl, rfl, rfl, rfl, rfl, rfl, trivial⟩ ?_
            refine X.next ?_
            refine C.cbool rfl (fun h132 => ?_) (fun h132 => ?_)
            · refine C.seq ?_
              refine C.region ?_
              refine R.ev rfl (E.move rfl) ?_
              refine R.ev rfl (E.assign rfl) ?_
              refine R.done ?_
              refine X.keep [(1, _), (5, _), (7, _), (8, _), (9, _), (10, _), (11, _), (12, _), (13, _), (14, _), (15, _), (16, _)] ⟨rfl, rfl, rfl, rfl, rfl, rfl, rfl, rfl, rfl, rfl, rfl, rfl, trivial⟩ ?_
              refine X.next ?_
              refine C.exit ?_
              refine X.thenExit ?_
              refine X.blockExit ?_
              refine X.next ?_
              refine C.region ?_
              refine R.ev rfl (E.move rfl) ?_
              refine R.ev rfl (E.add rfl rfl (by omega) (by omega)) ?_
              refine R.ev rfl (E.assign rfl) ?_
              refine R.done ?_
              refine X.keep [(1, _), (5, _), (7, _), (8, _), (9, _), (10, _), (11, _), (12, _), (13, _), (14, _), (15, _), (16, _)] ⟨rfl, rfl, rfl, rfl, rfl, rfl, rfl, rfl, rfl, rfl, rfl, rfl, trivial⟩ ?_
              first
                | exact X.again (i + 1, K4, MK4, MR4, stepL L mv, v4, (c0, c1, c2), F4) ⟨rfl, rfl, rfl, rfl, rfl, rfl, rfl, rfl, rfl, rfl, rfl, rfl, trivial⟩ ⟨by omega, hkc4, hr4, hI4, by omega, hw4, hH4, hs.to⟩ (by show _ - _ < _ - _; omega)
                | exact X.again (i + 1, K1, MK, MR, L, v, (b0, b1, b2), F1) ⟨rfl, rfl, rfl, rfl, rfl, rfl, rfl, rfl, rfl, rfl, rfl, rfl, trivial⟩ ⟨by omega, hk1, hrv, hI, by omega, hw1, hH, hs.to⟩ (by show _ - _ < _ - _; omega)
            · refine C.skip ?_
              refine X.next ?_
              refine C.seq ?_
              refine C.region ?_
              obtain ⟨hz, hx3, ky, _, hnl, hky, hlim⟩ : judge (honC l0 l1 l2 b0 b1 b2) hA n q lf id = 0 ∧ judge (honC l0 l1 l2 c0 c1 c2) hA n q lf id = 3 ∧ ∃ k, 0 ≤ (n : Int) ∧ (n : Int) < (honC l0 l1 l2 c0 c1 c2).length ∧ (honC l0 l1 l2 c0 c1 c2)[(n : Int).toNat]? = some k ∧ k.lim ≤ lf := by
                rcases hturn with h | h | ⟨h1, h2, h3⟩
                · exact absurd h (of_decide_eq_false h129)
                · exact absurd h (of_decide_eq_false h132)
                · exact ⟨h1, h2, h3⟩
              have hin : inC (honC l0 l1 l2 c0 c1 c2) n = true := decide_eq_true ⟨by omega, hnl⟩
              have hkat := kyAt_get hin hky
              refine R.ev rfl (E.move rfl) ?_
              refine R.ev rfl (E.loadRowC rfl Tryd.underlying29 rfl Tryd.sz29 (by first | exact ⟨hs.ldA, by first | rfl | assumption | exact encV_len _ | exact Enc.len _ | exact len_ub (by assumption)⟩ | exact ⟨hs.ldP rfl, by first | rfl | assumption | exact encV_len _ | exact Enc.len _ | exact len_ub (by assumption)⟩ | exact ⟨hs.ldM rfl rfl, by first | rfl | assumption | exact encV_len _ | exact Enc.len _ | exact len_ub (by assumption)⟩ | exact ⟨hs.ldM (by assumption) (by first | rfl | assumption), by first | rfl | assumption | exact encV_len _ | exact Enc.len _ | exact len_ub (by assumption)⟩ | exact ⟨by assumption, by first | rfl | assumption | exact encV_len _ | exact Enc.len _ | exact len_ub (by assumption)⟩ | exact hs.ldp | exact At.partC (by assumption))) ?_
              refine R.ev rfl (E.move rfl) ?_
              refine R.call ⟨_, _, Tryd.func24, rfl, by kernel_rfl⟩ rfl rfl (key_any hA n hI4 (by omega) hs) ?_
              rintro _ w24 ⟨d, rfl, hd, hs⟩
              obtain rfl : d = honC l0 l1 l2 c0 c1 c2 := ChA.det hI4.ok.inj (fun _ _ => Iff.rfl) hd hH4.chain
              rw [hkat, hin]
              refine R.ev rfl (E.move rfl) ?_
              refine R.ev rfl (E.extract rfl rfl) ?_
              refine R.ev rfl (E.extract rfl rfl) ?_
              refine R.sallocA hs Tryd.zr61 rfl ?_
              intro b22 w22 hs
              first | refine R.cstoreAll hs rfl rfl Tryd.sz61 (by first | rfl | assumption | exact encV_len _ | exact Enc.len _ | exact len_ub (by assumption) | simp [*]) (by first | rfl | assumption | exact encV_len _ | exact Enc.len _ | exact len_ub (by assumption) | simp [*]) (by first | assumption | exact OneL.all | exact Enc.one _ | exact ub_all _ | (repeat' (first | refine List.forall_mem_cons.2 ⟨?_, ?_⟩ | exact List.forall_mem_nil _ | rfl | exact OneC.one | exact KRow.oneC' (by assumption)))) ?_ | refine R.cstore hs rfl rfl Tryd.sz61 (by first | rfl | assumption | exact encV_len _ | exact Enc.len _ | exact len_ub (by assumption) | simp [*]) (by simp [*]) (by first | assumption | exact OneL.all | exact Enc.one _ | exact ub_all _ | (repeat' (first | refine List.forall_mem_cons.2 ⟨?_, ?_⟩ | exact List.forall_mem_nil _ | rfl | exact OneC.one | exact KRow.oneC' (by assumption)))) ?_
              intro w24_8 hs
              try simp only [List.set_cons_zero, List.set_cons_succ] at hs
              refine R.ev rfl (E.assign rfl) ?_
              refine R.done ?_
              refine X.keep [(1, _), (5, _), (7, _), (8, _), (9, _), (10, _), (11, _), (12, _), (13, _), (14, _), (15, _), (16, _), (21, _), (22, _), (23, _)] ⟨rfl, rfl, rfl, rfl, rfl, rfl, rfl, rfl, rfl, rfl, rfl, rfl, rfl, rfl, rfl, trivial⟩ ?_
              refine X.next ?_
              refine C.seq ?_
              refine C.seq ?_
              refine C.region ?_
              refine R.ev rfl (E.move rfl) ?_
              refine R.ev rfl ((E.neq rfl rfl).isF (fun h => h hz)) ?_
              refine R.ev rfl (E.move rfl) ?_
              refine R.gyes rfl rfl ?_
              refine R.ev rfl (E.move rfl) ?_
              refine R.gyes rfl rfl ?_
              refine R.ev rfl ((E.neq rfl rfl).isF (fun h => h hx3)) ?_
              refine R.ev rfl (E.pickF rfl rfl) ?_
              refine R.ev rfl (E.move rfl) ?_
              refine R.gyes rfl rfl ?_
              refine R.ev rfl (E.move rfl) ?_
              refine R.gyes rfl rfl ?_
              refine R.ev rfl (E.notT rfl) ?_
              refine R.ev rfl (E.pickF rfl rfl) ?_
              refine R.ev rfl (E.move rfl) ?_
              refine R.gyes rfl rfl ?_
              refine R.ev rfl (E.move rfl) ?_
              refine R.gyes rfl rfl ?_
              first | refine R.ev rfl (E.fieldAddr0 18 rfl Tryd.underlying61 rfl Tryd.sz3 rfl) ?_ | refine R.ev rfl (E.fieldAddrN 18 rfl Tryd.underlying61 rfl Tryd.sz3 rfl) ?_
              refine R.gyes rfl rfl ?_
              refine R.ev rfl (E.load1 rfl Tryd.underlying3 rfl (by first | exact hs.ldc | exact hs.ld rfl | exact hs.ld (by assumption) | exact by assumption | exact At.cellC (by assumption))) ?_
              refine R.gyes rfl rfl ?_
              refine R.ev rfl ((E.lss rfl rfl).isF (by omega)) ?_
              refine R.ev rfl (E.pickF rfl rfl) ?_
              refine R.done ?_
              refine X.keep [(1, _), (5, _), (7, _), (8, _), (9, _), (10, _), (11, _), (12, _), (13, _), (14, _), (16, _), (21, _), (156, _)] ⟨rfl, rfl, rfl, rfl, rfl, rfl, rfl, rfl, rfl, rfl, rfl, rfl, rfl, trivial⟩ ?_
              refine X.next ?_
              refine C.cfalse rfl ?_
              refine C.skip ?_
              refine X.next ?_
              refine C.region ?_
              refine R.ev rfl (E.move rfl) ?_
              refine R.ev rfl (E.assign rfl) ?_
              refine R.done ?_
              refine X.keep [(1, _), (5, _), (7, _), (8, _), (9, _), (10, _), (11, _), (12, _), (13, _), (14, _), (15, _), (16, _)] ⟨rfl, rfl, rfl, rfl, rfl, rfl, rfl, rfl, rfl, rfl, rfl, rfl, trivial⟩ ?_
              refine X.blockNormal ?_
              refine X.next ?_
              refine C.region ?_
              refine R.ev rfl (E.move rfl) ?_
              refine R.ev rfl (E.add rfl rfl (by omega) (by omega)) ?_
              refine R.ev rfl (E.assign rfl) ?_
              refine R.done ?_
              refine X.keep [(1, _), (5, _), (7, _), (8, _), (9, _), (10, _), (11, _), (12, _), (13, _), (14, _), (15, _), (16, _)] ⟨rfl, rfl, rfl, rfl, rfl, rfl, rfl, rfl, rfl, rfl, rfl, rfl, trivial⟩ ?_
              first
                | exact X.again (i + 1, K4, MK4, MR4, stepL L mv, v4, (c0, c1, c2), F4) ⟨rfl, rfl, rfl, rfl, rfl, rfl, rfl, rfl, rfl, rfl, rfl, rfl, trivial⟩ ⟨by omega, hkc4, hr4, hI4, by omega, hw4, hH4, hs.to⟩ (by show _ - _ < _ - _; omega)
                | exact X.again (i + 1, K1, MK, MR, L, v, (b0, b1, b2), F1) ⟨rfl, rfl, rfl, rfl, rfl, rfl, rfl, rfl, rfl, rfl, rfl, rfl, trivial⟩ ⟨by omega, hk1, hrv, hI, by omega, hw1, hH, hs.to⟩ (by show _ - _ < _ - _; omega)
    · refine C.exit ?_
      refine X.thenExit ?_
      refine X.loopExit ?_
      refine X.blockExit ?_
      refine X.next ?_
      refine C.seq ?_
      refine C.region ?_
      refine R.ev rfl (E.assign rfl) ?_
      refine R.done ?_
      refine X.keep [(6, _)] ⟨rfl, trivial⟩ ?_
      refine X.next ?_
      refine C.ret ?_
      refine X.ret1 rfl rfl ?_
      exact ⟨rfl, (hs.less hk1.le).mod⟩
  have key_18_19 : ∀ (b12 b14 : Nat) (w0 : World), Sat (Kn.of w) w0 (row b12 32 (encP pz) :: row b14 34 (kvz.1.map ub) :: F :: row b37 41 ((owns l0 l1 l2).flatMap encMv) :: row b7 29 (hA.1.map ub) :: row b5 57 ([p0, p1, p2, p3].map ub) :: row b3 56 ([l0, l1, l2].map ub) :: []) → DD [0, 1, 2, 3, 4, 5, 6, 7, 9, 10, 11, 12, 13, 14, 15, 16, 17, 18, 19] [(1, .slice ad ms.length cap), (5, ptr b5), (7, ptr b7), (8, .slice (some ⟨b37, 0, none⟩) 3 3), (9, ptr p), (10, .slice none 0 0), (12, ptr b12), (14, ptr b14), (42, .int .i64 (n : Nat)), (46, ub (UInt8.ofNat (1 + p1.toNat % 4))), (51, .int .i64 lf), (56, idV id.1)] w0 := by
    intro b12 b14 w0 hs
    refine hDD _ _ _ ?_
    refine D.actI 8 (by kernel_rfl) rfl ?_ 
    · refine R.call ⟨_, _, Tryd.func14, rfl, by kernel_rfl⟩ rfl rfl (public_any _ hs) ?_
      rintro _ w78 ⟨rfl, hs⟩
      rw [u8_toNat (show 1 + p1.toNat % 4 < 256 by omega), ← hq]
      refine D.back hs.to ?_
      refine D.evP 20 rfl (by kernel_rfl) rfl (fun _ => hs.to) (fun _ => E.assign rfl) ?_
      refine D.perm [0, 1, 2, 3, 4, 5, 6, 7, 8, 9, 10, 11, 12, 13, 14, 15, 16, 17, 18, 19, 20] (by kernel_rfl) rfl ?_
      refine D.keep [(1, _), (5, _), (7, _), (8, _), (9, _), (10, _), (11, _), (12, _), (14, _), (47, _), (51, _), (56, _)] ⟨rfl, rfl, rfl, rfl, rfl, rfl, rfl, rfl, rfl, rfl, rfl, rfl, trivial⟩ ?_
      exact hDD2 _ _ _ (key_8_18_19 b12 b14 _ hs.to)
  have key_8_19 : ∀ (b14 : Nat) (w0 : World), Sat (Kn.of w) w0 (row b14 34 (kvz.1.map ub) :: F :: row b37 41 ((owns l0 l1 l2).flatMap encMv) :: row b7 29 (hA.1.map ub) :: row b5 57 ([p0, p1, p2, p3].map ub) :: row b3 56 ([l0, l1, l2].map ub) :: []) → DD [0, 1, 2, 3, 4, 5, 6, 7, 8, 9, 10, 11, 12, 13, 14, 15, 16, 17, 19] [(1, .slice ad ms.length cap), (5, ptr b5), (7, ptr b7), (8, .slice (some ⟨b37, 0, none⟩) 3 3), (9, ptr p), (10, .slice none 0 0), (14, ptr b14), (42, .int .i64 (n : Nat)), (47, .agg (encP q).toArray), (51, .int .i64 lf), (56, idV id.1)] w0 := by
    intro b14 w0 hs
    refine hDD _ _ _ ?_
    refine D.actI 18 (by kernel_rfl) rfl ?_ 
    · refine R.sallocA hs Tryd.zr32 rfl ?_
      intro b12 w12 hs
      have hs := Sat.seen (row b12 32 (encP pz)) rfl hs
      refine D.back hs.to ?_
      refine D.evP 20 rfl (by kernel_rfl) rfl (fun _ => hs.to) (fun _ => E.assign rfl) ?_
      refine D.perm [0, 1, 2, 3, 4, 5, 6, 7, 8, 9, 10, 11, 12, 13, 14, 15, 16, 17, 18, 19, 20] (by kernel_rfl) rfl ?_
      refine D.keep [(1, _), (5, _), (7, _), (8, _), (9, _), (10, _), (11, _), (12, _), (14, _), (47, _), (51, _), (56, _)] ⟨rfl, rfl, rfl, rfl, rfl, rfl, rfl, rfl, rfl, rfl, rfl, rfl, trivial⟩ ?_
      exact hDD2 _ _ _ (key_8_18_19 b12 b14 _ hs.to)
  have key_8_18 : ∀ (b12 : Nat) (w0 : World), Sat (Kn.of w) w0 (row b12 32 (encP pz) :: F :: row b37 41 ((owns l0 l1 l2).flatMap encMv) :: row b7 29 (hA.1.map ub) :: row b5 57 ([p0, p1, p2, p3].map ub) :: row b3 56 ([l0, l1, l2].map ub) :: []) → DD [0, 1, 2, 3, 4, 5, 6, 7, 8, 9, 10, 11, 12, 13, 14, 15, 16, 17, 18] [(1, .slice ad ms.length cap), (5, ptr b5), (7, ptr b7), (8, .slice (some ⟨b37, 0, none⟩) 3 3), (9, ptr p), (10, .slice none 0 0), (12, ptr b12), (42, .int .i64 (n : Nat)), (47, .agg (encP q).toArray), (51, .int .i64 lf), (56, idV id.1)] w0 := by
    intro b12 w0 hs
    refine hDD _ _ _ ?_
    refine D.actI 19 (by kernel_rfl) rfl ?_ 
    · refine R.sallocA hs Tryd.zr34 rfl ?_
      intro b14 w14 hs
      have hs := Sat.seen (row b14 34 (kvz.1.map ub)) rfl hs
      refine D.back hs.to ?_
      refine D.evP 20 rfl (by kernel_rfl) rfl (fun _ => hs.to) (fun _ => E.assign rfl) ?_
      refine D.perm [0, 1, 2, 3, 4, 5, 6, 7, 8, 9, 10, 11, 12, 13, 14, 15, 16, 17, 18, 19, 20] (by kernel_rfl) rfl ?_
      refine D.keep [(1, _), (5, _), (7, _), (8, _), (9, _), (10, _), (11, _), (12, _), (14, _), (47, _), (51, _), (56, _)] ⟨rfl, rfl, rfl, rfl, rfl, rfl, rfl, rfl, rfl, rfl, rfl, rfl, trivial⟩ ?_
      exact hDD2 _ _ _ (key_8_18_19 b12 b14 _ hs.to)
  have key_19 : ∀ (b14 : Nat) (w0 : World), Sat (Kn.of w) w0 (row b14 34 (kvz.1.map ub) :: F :: row b37 41 ((owns l0 l1 l2).flatMap encMv) :: row b7 29 (hA.1.map ub) :: row b5 57 ([p0, p1, p2, p3].map ub) :: row b3 56 ([l0, l1, l2].map ub) :: []) → DD [0, 1, 2, 3, 4, 5, 6, 7, 9, 10, 11, 12, 13, 14, 15, 16, 17, 19] [(1, .slice ad ms.length cap), (5, ptr b5), (7, ptr b7), (8, .slice (some ⟨b37, 0, none⟩) 3 3), (9, ptr p), (10, .slice none 0 0), (14, ptr b14), (42, .int .i64 (n : Nat)), (46, ub (UInt8.ofNat (1 + p1.toNat % 4))), (51, .int .i64 lf), (56, idV id.1)] w0 := by
    intro b14 w0 hs
    refine hDD _ _ _ ?_
    refine D.actII 8 18 (by kernel_rfl) rfl rfl ?_ ?_ 
    · refine R.call ⟨_, _, Tryd.func14, rfl, by kernel_rfl⟩ rfl rfl (public_any _ hs) ?_
      rintro _ w78 ⟨rfl, hs⟩
      rw [u8_toNat (show 1 + p1.toNat % 4 < 256 by omega), ← hq]
      refine D.back hs.to ?_
      refine D.perm [0, 1, 2, 3, 4, 5, 6, 7, 8, 9, 10, 11, 12, 13, 14, 15, 16, 17, 19] (by kernel_rfl) rfl ?_
      refine D.keep [(1, _), (5, _), (7, _), (8, _), (9, _), (10, _), (14, _), (42, _), (47, _), (51, _), (56, _)] ⟨rfl, rfl, rfl, rfl, rfl, rfl, rfl, rfl, rfl, rfl, rfl, trivial⟩ ?_
      exact hDD2 _ _ _ (key_8_19 b14 _ hs.to)
    · refine R.sallocA hs Tryd.zr32 rfl ?_
      intro b12 w12 hs
      have hs := Sat.seen (row b12 32 (encP pz)) rfl hs
      refine D.back hs.to ?_
      refine D.perm [0, 1, 2, 3, 4, 5, 6, 7, 9, 10, 11, 12, 13, 14, 15, 16, 17, 18, 19] (by kernel_rfl) rfl ?_
      refine D.keep [(1, _), (5, _), (7, _), (8, _), (9, _), (10, _), (12, _), (14, _), (42, _), (46, _), (51, _), (56, _)] ⟨rfl, rfl, rfl, rfl, rfl, rfl, rfl, rfl, rfl, rfl, rfl, rfl, trivial⟩ ?_
      exact hDD2 _ _ _ (key_18_19 b12 b14 _ hs.to)
  have key_18 : ∀ (b12 : Nat) (w0 : World), Sat (Kn.of w) w0 (row b12 32 (encP pz) :: F :: row b37 41 ((owns l0 l1 l2).flatMap encMv) :: row b7 29 (hA.1.map ub) :: row b5 57 ([p0, p1, p2, p3].map ub) :: row b3 56 ([l0, l1, l2].map ub) :: []) → DD [0, 1, 2, 3, 4, 5, 6, 7, 9, 10, 11, 12, 13, 14, 15, 16, 17, 18] [(1, .slice ad ms.length cap), (5, ptr b5), (7, ptr b7), (8, .slice (some ⟨b37, 0, none⟩) 3 3), (9, ptr p), (10, .slice none 0 0), (12, ptr b12), (42, .int .i64 (n : Nat)), (46, ub (UInt8.ofNat (1 + p1.toNat % 4))), (51, .int .i64 lf), (56, idV id.1)] w0 := by
    intro b12 w0 hs
    refine hDD _ _ _ ?_
    refine D.actII 8 19 (by kernel_rfl) rfl rfl ?_ ?_ 
    · refine R.call ⟨_, _, Tryd.func14, rfl, by kernel_rfl⟩ rfl rfl (public_any _ hs) ?_
      rintro _ w78 ⟨rfl, hs⟩
      rw [u8_toNat (show 1 + p1.toNat % 4 < 256 by omega), ← hq]
      refine D.back hs.to ?_
      refine D.perm [0, 1, 2, 3, 4, 5, 6, 7, 8, 9, 10, 11, 12, 13, 14, 15, 16, 17, 18] (by kernel_rfl) rfl ?_
      refine D.keep [(1, _), (5, _), (7, _), (8, _), (9, _), (10, _), (12, _), (42, _), (47, _), (51, _), (56, _)] ⟨rfl, rfl, rfl, rfl, rfl, rfl, rfl, rfl, rfl, rfl, rfl, trivial⟩ ?_
      exact hDD2 _ _ _ (key_8_18 b12 _ hs.to)
    · refine R.sallocA hs Tryd.zr34 rfl ?_
      intro b14 w14 hs
      have hs := Sat.seen (row b14 34 (kvz.1.map ub)) rfl hs
      refine D.back hs.to ?_
      refine D.perm [0, 1, 2, 3, 4, 5, 6, 7, 9, 10, 11, 12, 13, 14, 15, 16, 17, 18, 19] (by kernel_rfl) rfl ?_
      refine D.keep [(1, _), (5, _), (7, _), (8, _), (9, _), (10, _), (12, _), (14, _), (42, _), (46, _), (51, _), (56, _)] ⟨rfl, rfl, rfl, rfl, rfl, rfl, rfl, rfl, rfl, rfl, rfl, rfl, trivial⟩ ?_
      exact hDD2 _ _ _ (key_18_19 b12 b14 _ hs.to)
  have key_8 : ∀ (w0 : World), Sat (Kn.of w) w0 (F :: row b37 41 ((owns l0 l1 l2).flatMap encMv) :: row b7 29 (hA.1.map ub) :: row b5 57 ([p0, p1, p2, p3].map ub) :: row b3 56 ([l0, l1, l2].map ub) :: []) → DD [0, 1, 2, 3, 4, 5, 6, 7, 8, 9, 10, 11, 12, 13, 14, 15, 16, 17] [(1, .slice ad ms.length cap), (5, ptr b5), (7, ptr b7), (8, .slice (some ⟨b37, 0, none⟩) 3 3), (9, ptr p), (10, .slice none 0 0), (42, .int .i64 (n : Nat)), (47, .agg (encP q).toArray), (51, .int .i64 lf), (56, idV id.1)] w0 := by
    intro w0 hs
    refine hDD _ _ _ ?_
    refine D.actII 18 19 (by kernel_rfl) rfl rfl ?_ ?_ 
    · refine R.sallocA hs Tryd.zr32 rfl ?_
      intro b12 w12 hs
      have hs := Sat.seen (row b12 32 (encP pz)) rfl hs
      refine D.back hs.to ?_
      refine D.perm [0, 1, 2, 3, 4, 5, 6, 7, 8, 9, 10, 11, 12, 13, 14, 15, 16, 17, 18] (by kernel_rfl) rfl ?_
      refine D.keep [(1, _), (5, _), (7, _), (8, _), (9, _), (10, _), (12, _), (42, _), (47, _), (51, _), (56, _)] ⟨rfl, rfl, rfl, rfl, rfl, rfl, rfl, rfl, rfl, rfl, rfl, trivial⟩ ?_
      exact hDD2 _ _ _ (key_8_18 b12 _ hs.to)
    · refine R.sallocA hs Tryd.zr34 rfl ?_
      intro b14 w14 hs
      have hs := Sat.seen (row b14 34 (kvz.1.map ub)) rfl hs
      refine D.back hs.to ?_
      refine D.perm [0, 1, 2, 3, 4, 5, 6, 7, 8, 9, 10, 11, 12, 13, 14, 15, 16, 17, 19] (by kernel_rfl) rfl ?_
      refine D.keep [(1, _), (5, _), (7, _), (8, _), (9, _), (10, _), (14, _), (42, _), (47, _), (51, _), (56, _)] ⟨rfl, rfl, rfl, rfl, rfl, rfl, rfl, rfl, rfl, rfl, rfl, trivial⟩ ?_
      exact hDD2 _ _ _ (key_8_19 b14 _ hs.to)
  have key_z : ∀ (w0 : World), Sat (Kn.of w) w0 (F :: row b37 41 ((owns l0 l1 l2).flatMap encMv) :: row b7 29 (hA.1.map ub) :: row b5 57 ([p0, p1, p2, p3].map ub) :: row b3 56 ([l0, l1, l2].map ub) :: []) → DD [0, 1, 2, 3, 4, 5, 6, 7, 9, 10, 11, 12, 13, 14, 15, 16, 17] [(1, .slice ad ms.length cap), (5, ptr b5), (7, ptr b7), (8, .slice (some ⟨b37, 0, none⟩) 3 3), (9, ptr p), (10, .slice none 0 0), (42, .int .i64 (n : Nat)), (46, ub (UInt8.ofNat (1 + p1.toNat % 4))), (51, .int .i64 lf), (56, idV id.1)] w0 := by
    intro w0 hs
    refine hDD _ _ _ ?_
    refine D.act3 8 18 19 (by kernel_rfl) rfl rfl rfl ?_ ?_ ?_ 
    · refine R.call ⟨_, _, Tryd.func14, rfl, by kernel_rfl⟩ rfl rfl (public_any _ hs) ?_
      rintro _ w78 ⟨rfl, hs⟩
      rw [u8_toNat (show 1 + p1.toNat % 4 < 256 by omega), ← hq]
      refine D.back hs.to ?_
      refine D.perm [0, 1, 2, 3, 4, 5, 6, 7, 8, 9, 10, 11, 12, 13, 14, 15, 16, 17] (by kernel_rfl) rfl ?_
      refine D.keep [(1, _), (5, _), (7, _), (8, _), (9, _), (10, _), (42, _), (47, _), (51, _), (56, _)] ⟨rfl, rfl, rfl, rfl, rfl, rfl, rfl, rfl, rfl, rfl, trivial⟩ ?_
      exact hDD2 _ _ _ (key_8 _ hs.to)
    · refine R.sallocA hs Tryd.zr32 rfl ?_
      intro b12 w12 hs
      have hs := Sat.seen (row b12 32 (encP pz)) rfl hs
      refine D.back hs.to ?_
      refine D.perm [0, 1, 2, 3, 4, 5, 6, 7, 9, 10, 11, 12, 13, 14, 15, 16, 17, 18] (by kernel_rfl) rfl ?_
      refine D.keep [(1, _), (5, _), (7, _), (8, _), (9, _), (10, _), (12, _), (42, _), (46, _), (51, _), (56, _)] ⟨rfl, rfl, rfl, rfl, rfl, rfl, rfl, rfl, rfl, rfl, rfl, trivial⟩ ?_
      exact hDD2 _ _ _ (key_18 b12 _ hs.to)
    · refine R.sallocA hs Tryd.zr34 rfl ?_
      intro b14 w14 hs
      have hs := Sat.seen (row b14 34 (kvz.1.map ub)) rfl hs
      refine D.back hs.to ?_
      refine D.perm [0, 1, 2, 3, 4, 5, 6, 7, 9, 10, 11, 12, 13, 14, 15, 16, 17, 19] (by kernel_rfl) rfl ?_
      refine D.keep [(1, _), (5, _), (7, _), (8, _), (9, _), (10, _), (14, _), (42, _), (46, _), (51, _), (56, _)] ⟨rfl, rfl, rfl, rfl, rfl, rfl, rfl, rfl, rfl, rfl, rfl, trivial⟩ ?_
      exact hDD2 _ _ _ (key_19 b14 _ hs.to)
  refine D.perm [0, 1, 2, 3, 4, 5, 6, 7, 9, 10, 11, 12, 13, 14, 15, 16, 17] (by kernel_rfl) rfl ?_
  refine D.keep [(1, _), (5, _), (7, _), (8, _), (9, _), (10, _), (42, _), (46, _), (51, _), (56, _)] ⟨rfl, rfl, rfl, rfl, rfl, rfl, rfl, rfl, rfl, rfl, trivial⟩ ?_
  exact hDD2 _ _ _ (key_z _ hs.to)

namespace keyringHonest
open Go.ChangeShapes Go.WideShapes Go.ChangeAt Go.RowKit
open Go.ChangeMaps (open_string shut_string)
set_option linter.unusedVariables false

theorem own : ownKnob Tryd.prog.godebug = none := by kernel_rfl
theorem laidOut : laidOutB Tryd.prog = true := by kernel_rfl
theorem door_met (os : Os) (args : Array Value) : laidMetH Tryd.prog Rows.keyringHonestRow.laid ((World.doorLaid Tryd.prog 400 os).forCall (fun _ _ => 0) ⟨#[], args, []⟩).memory :=
  laidMetH_of_parts3 (fuel := 8) (laidMet_of_run' 8 (by kernel_rfl) (by kernel_rfl)) (by kernel_rfl) (by kernel_rfl)
set_option maxRecDepth 100000 in
theorem lifted (os : Os) (started : os.Started) (H : Type) (enc : TypeId × Value → H) :
    ReturnsInHanded {} Tryd.checked os 5 .any (fun w args => (Rows.keyringHonestSpec.pre enc Tryd.prog Tryd.f5 [] false w args ∧ laidMetH Tryd.prog Rows.keyringHonestRow.laid w) ∧ sizedMet enc Tryd.prog Tryd.f5 (OpenSpec.ofChange Rows.keyringHonestSpec) false w args)
      (Rows.keyringHonestSpec.post enc Tryd.prog Tryd.f5 false true false false) := by
  refine returnsInHanded_of_change_and (C := Tryd.checked) (X := fun w _ => laidMetH Tryd.prog Rows.keyringHonestRow.laid w) (fun _ _ _ hh h => h.of_heap hh) own started (by kernel_rfl) Tryd.func5
    (ChangeSpec.witness_shaped (enc := enc) (C := Tryd.checked) (os := os) (X := fun w _ => laidMetH Tryd.prog Rows.keyringHonestRow.laid w) false (World.doorLaid Tryd.prog 400 os) #[.agg #[.int .u8 0, .int .u8 0, .int .u8 0], .slice none 0 0, .agg #[.int .u8 0, .int .u8 0, .int .u8 0, .int .u8 0]] 8 rfl (World.shaped_of_RefB (by kernel_rfl) (by kernel_rfl)) (by kernel_rfl) (by kernel_rfl) (by kernel_rfl) (door_met os _)) ?_
  intro W base args ds gs before hval0 hW _ _ hL _
  have hval : ∀ (j : Nat) t v, Tryd.f5.params[j]? = some t → args[j]? = some v → Value.okWide Tryd.prog W .any base t v := hval0
  have hW' := hW
  obtain ⟨p, q, hA0, hV, rfl, hfz, hnd⟩ := hW
  have hA : DataW.TrodAll enc Tryd.prog W 0 (fun _ => true) true Tryd.f5.params.toList args.toList ds p := hA0
  rw [Tryd.params5] at hA hval
  obtain ⟨v0, vs0, d0, ds0, p0, q0, hargs, rfl, rfl, h0, r0⟩ := trodAll_cons hA
  obtain ⟨v1, vs1, d1, ds1, p1, q1, rfl, rfl, rfl, h1, r1⟩ := trodAll_cons r0
  obtain ⟨v2, vs2, d2, ds2, p2, q2, rfl, rfl, rfl, h2, r2⟩ := trodAll_cons r1
  obtain ⟨rfl, rfl, rfl⟩ := trodAll_nil r2
  obtain rfl : args = #[v0, v1, v2] := by cases args; simp_all
  obtain ⟨rfl, rfl⟩ := trodVars_none hV
  have lt0 : ∀ x ∈ p0, x.block < W.heap.size := by obtain ⟨m, hm⟩ := h0; exact DataW.trod_lt m _ _ _ hm
  have a0 := Eng.argv_of (hval 0 56 v0 rfl rfl) h0
  have lt1 : ∀ x ∈ p1, x.block < W.heap.size := by obtain ⟨m, hm⟩ := h1; exact DataW.trod_lt m _ _ _ hm
  have a1 := Eng.argv_of (hval 1 22 v1 rfl rfl) h1
  have lt2 : ∀ x ∈ p2, x.block < W.heap.size := by obtain ⟨m, hm⟩ := h2; exact DataW.trod_lt m _ _ _ hm
  have a2 := Eng.argv_of (hval 2 57 v2 rfl rfl) h2
  clear hA0 hval0
  refine Calls.mono (khonest_walk W (laid_kc hL) v0 a0 v1 a1 v2 a2) fun e W' ⟨v, he, hv, hm⟩ => ?_
  subst he
  subst hv
  have bel := hm.below
  exact ⟨_, rfl, _, _, _, [], _, [], hW', trodAll_mk1 (shut_bool Tryd.underlying4 _), (trodAll_cons_mk (Below.trod laidOut (by kernel_rfl) (of_decide_eq_true (by kernel_rfl)) h0 bel lt0) (trodAll_cons_mk (Below.trod laidOut (by kernel_rfl) (of_decide_eq_true (by kernel_rfl)) h1 bel lt1) (trodAll_cons_mk (Below.trod laidOut (by kernel_rfl) (of_decide_eq_true (by kernel_rfl)) h2 bel lt2) trodAll_mk0))), rfl, bel.frame _, fun h => by cases h⟩

theorem over : Rows.keyringHonestRow.holds Tryd.pinned (OpenSpec.ofChange Rows.keyringHonestSpec) :=
  OpenClaim.holds_of_wide 5 Tryd.f5 rfl rfl rfl rfl rfl rfl rfl ⟨rfl, rfl, rfl, rfl, rfl⟩ rfl rfl rfl rfl rfl (by kernel_rfl) Tryd.func5 (by kernel_rfl)
    (of_decide_eq_true (by kernel_rfl)) (by unfold Func.isWrapper; first | (rw [if_pos (by decide +kernel)]; kernel_rfl) | (rw [if_neg (by decide +kernel)]; exact ⟨rfl, rfl⟩))
    (fun os started H enc _ => lifted os started H enc)
end keyringHonest
/-- the statement: the tied card -/
theorem keyringHonest_holds : Rows.KeyringHonestCardSaid :=
  Claim7.holds_tied_plain_at .later [] [.data] true (true, "c0ab8a36735131c8a9cd87cc07d7b40f6a8e739a1cb5823313f320602ea95481") false
    keyringHonest.over (fun _ h => by cases h) (by kernel_rfl) (fun _ h => by cases h) keyringHonest_row_tie rfl ⟨rfl, rfl⟩ (by kernel_rfl) rfl
    (fun f fn hf hfn => by
      obtain rfl : f = 5 := Option.some.inj ((show Tryd.prog.funcNamed "bulletin/bulletinlaw19.KeyringHonest" = some 5 by kernel_rfl).symm.trans hf) |>.symm
      obtain rfl : fn = Tryd.f5 := (Option.some.inj (Tryd.func5.symm.trans hfn)).symm
      exact ⟨by kernel_rfl, fun j t ht => by
        rw [Tryd.params5] at ht
        have ht := List.mem_of_getElem? (by simpa using ht)
        have key : ∀ t ∈ ([56, 22, 57] : List TypeId), Tryd.prog.wantsStandIn t = false := by
          intro t ht
          simp only [List.mem_cons, List.not_mem_nil, or_false] at ht
          rcases ht with rfl | rfl | rfl <;> kernel_rfl
        exact key t (by simpa using ht)⟩)
    (by kernel_rfl)
#print axioms keyringHonest_holds
end Go.Proofs.YtbkgibgomohdjaaDoor
