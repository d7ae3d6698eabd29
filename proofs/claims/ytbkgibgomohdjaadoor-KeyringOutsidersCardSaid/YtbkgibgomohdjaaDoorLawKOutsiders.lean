/-
  KeyringOutsiders returns true for every list of roll-overs, every further one and every author: a roll-over of another author, or not signed with a key of the author's chain, does not change the chain. No condition but the listed table (tied to the program's text).
-/
import Derived.Test.YtbkgibgomohdjaaDoorKrL
namespace Go.Proofs.YtbkgibgomohdjaaDoor
open Go.Eng Go.RowKit Go.Sort
def insB (r : RO) (y : KY) : Bool := decide (y.n = r.n) && decide (y.pu = r.pu)
theorem any_snoc {α : Type} {f : α → Bool} {l : List α} {y : α} : (l ++ [y]).any f = (l.any f || f y) := by simp
theorem koutsiders_walk (w : World) (hkc : HasKc (Kn.of w)) (v1 : Value) (a1 : ArgV Tryd.prog w 22 v1) (v2 : Value) (a2 : ArgV Tryd.prog w 41 v2) (v3 : Value) (a3 : ArgV Tryd.prog w 5 v3) : Ret Tryd.prog 4 #[v1, v2, v3] w fun r w' => r = .bool true ∧ Mod [] w w' := by
  obtain ⟨ad, cap, ms, rfl, hc1, _, hr1⟩ := argv_mvs a1
  obtain ⟨mo, rfl⟩ := argv_mv a2
  obtain ⟨au, rfl⟩ := argv_u8 a3 Tryd.underlying5
  have hs := Sat.start w
  have q5 := encO_len (rkR mo)
  refine Ret.enter (n := 85) (args := [.slice ad ms.length cap, .agg (encMv mo).toArray, ub au]) Tryd.func4 rfl rfl ?_
  refine C.keep [(0, _), (1, _), (2, _)] ⟨rfl, rfl, rfl, trivial⟩ ?_
  refine C.seq ?_
  refine C.region ?_
  refine R.sboxA hs rfl rfl ?_
  intro b4 w4 hs
  refine R.ev rfl (E.assign rfl) ?_
  refine R.done ?_
  refine X.keep [(0, _), (2, _), (4, _)] ⟨rfl, rfl, rfl, trivial⟩ ?_
  refine X.next ?_
  refine C.seq ?_
  refine C.seq ?_
  refine C.region ?_
  refine R.call ⟨_, _, Tryd.func11, rfl, by kernel_rfl⟩ rfl rfl (known_any hs) ?_
  rintro _ w1 ⟨rfl, hs⟩
  refine R.ev rfl (E.notT rfl) ?_
  refine R.done ?_
  refine X.keep [(0, _), (2, _), (4, _), (18, _)] ⟨rfl, rfl, rfl, rfl, trivial⟩ ?_
  refine X.next ?_
  refine C.cfalse rfl ?_
  refine C.skip ?_
  refine X.next ?_
  refine C.seq ?_
  refine C.region ?_
  refine R.ev rfl (E.move rfl) ?_
  refine R.call ⟨_, _, Tryd.func12, rfl, by kernel_rfl⟩ rfl rfl (build_any (ms := ms) (n := 16) (by decide) hs) ?_
  rintro _ w3 ⟨p, K2, v8, MK, MR, F, rfl, hk2, hr8, hI, hw, hs⟩
  have hbl : (bld (ms.take 16)).length ≤ 16 := by have := bld_len (ms.take 16); rw [List.length_take] at this; omega
  have o8 : OneC v8 := ⟨KRow.oneC' hr8⟩
  have hfam := bld_fam (ms.take 16)
  generalize bld (ms.take 16) = L at hr8 hI hbl hfam
  refine R.ev rfl (E.move rfl) ?_
  refine R.ev rfl (E.extract rfl rfl) ?_
  refine R.ev rfl (E.extract rfl rfl) ?_
  refine R.ev rfl (E.extract rfl rfl) ?_
  refine R.ev rfl (E.assign rfl) ?_
  refine R.ev rfl (E.assign rfl) ?_
  refine R.ev rfl (E.assign rfl) ?_
  refine R.done ?_
  refine X.keep [(2, _), (4, _), (7, _), (8, _)] ⟨rfl, rfl, rfl, rfl, trivial⟩ ?_
  refine X.next ?_
  refine C.seq ?_
  refine C.region ?_
  refine R.ev rfl (E.move rfl) ?_
  refine R.call ⟨_, _, Tryd.func14, rfl, by kernel_rfl⟩ rfl rfl (public_any au hs) ?_
  rintro _ w41 ⟨rfl, hs⟩
  refine R.call ⟨_, _, Tryd.func13, rfl, by kernel_rfl⟩ rfl rfl (rOf_any _ hs) ?_
  rintro _ w42 ⟨rfl, hs⟩
  generalize ofP (pubk au.toNat) = a
  have q2 := encV_len a
  refine R.sallocA hs Tryd.zr29 rfl ?_
  intro b10 w10 hs
  first | refine R.cstoreAll hs rfl rfl Tryd.sz29 (by first | rfl | assumption | exact encV_len _ | exact Enc.len _ | exact len_ub (by assumption) | simp [*]) (by first | rfl | assumption | exact encV_len _ | exact Enc.len _ | exact len_ub (by assumption) | simp [*]) (by first | assumption | exact OneL.all | exact Enc.one _ | exact ub_all _ | (repeat' (first | refine List.forall_mem_cons.2 ⟨?_, ?_⟩ | exact List.forall_mem_nil _ | rfl | exact OneC.one | exact KRow.oneC' (by assumption)))) ?_ | refine R.cstore hs rfl rfl Tryd.sz29 (by first | rfl | assumption | exact encV_len _ | exact Enc.len _ | exact len_ub (by assumption) | simp [*]) (by simp [*]) (by first | assumption | exact OneL.all | exact Enc.one _ | exact ub_all _ | (repeat' (first | refine List.forall_mem_cons.2 ⟨?_, ?_⟩ | exact List.forall_mem_nil _ | rfl | exact OneC.one | exact KRow.oneC' (by assumption)))) ?_
  intro w4_4 hs
  try simp only [List.set_cons_zero, List.set_cons_succ] at hs
  refine R.done ?_
  refine X.keep [(4, _), (7, _), (8, _), (10, _)] ⟨rfl, rfl, rfl, rfl, trivial⟩ ?_
  refine X.next ?_
  refine C.seq ?_
  refine C.region ?_
  refine R.ev rfl (E.move rfl) ?_
  refine R.ev rfl (E.loadRowC rfl Tryd.underlying29 rfl Tryd.sz29 (by first | exact ⟨hs.ldA, by first | rfl | assumption | exact encV_len _ | exact Enc.len _ | exact len_ub (by assumption)⟩ | exact ⟨hs.ldP rfl, by first | rfl | assumption | exact encV_len _ | exact Enc.len _ | exact len_ub (by assumption)⟩ | exact ⟨hs.ldM rfl rfl, by first | rfl | assumption | exact encV_len _ | exact Enc.len _ | exact len_ub (by assumption)⟩ | exact ⟨hs.ldM (by assumption) (by first | rfl | assumption), by first | rfl | assumption | exact encV_len _ | exact Enc.len _ | exact len_ub (by assumption)⟩ | exact ⟨by assumption, by first | rfl | assumption | exact encV_len _ | exact Enc.len _ | exact len_ub (by assumption)⟩ | exact hs.ldp | exact At.partC (by assumption))) ?_
  refine R.call ⟨_, _, Tryd.func18, rfl, by kernel_rfl⟩ rfl rfl (rchain_any a hs (by omega)) ?_
  rintro v30 w30 ⟨c, F30, r30, hc, hs⟩
  obtain ⟨K3, hk3, rr30, hs⟩ := r30.freezeK hs
  have hcl := hc.len
  obtain ⟨ad30, cap30, rfl, _⟩ := rr30.ex
  refine R.ev rfl (E.assign rfl) ?_
  refine R.done ?_
  refine X.keep [(4, _), (7, _), (8, _), (10, _), (11, _)] ⟨rfl, rfl, rfl, rfl, rfl, trivial⟩ ?_
  refine X.next ?_
  refine C.seq ?_
  refine C.region ?_
  refine R.ev rfl (E.loadRowC rfl Tryd.underlying41 rfl Tryd.sz41 (by first | exact ⟨hs.ldA, by first | rfl | assumption | exact encV_len _ | exact Enc.len _ | exact len_ub (by assumption)⟩ | exact ⟨hs.ldP rfl, by first | rfl | assumption | exact encV_len _ | exact Enc.len _ | exact len_ub (by assumption)⟩ | exact ⟨hs.ldM rfl rfl, by first | rfl | assumption | exact encV_len _ | exact Enc.len _ | exact len_ub (by assumption)⟩ | exact ⟨hs.ldM (by assumption) (by first | rfl | assumption), by first | rfl | assumption | exact encV_len _ | exact Enc.len _ | exact len_ub (by assumption)⟩ | exact ⟨by assumption, by first | rfl | assumption | exact encV_len _ | exact Enc.len _ | exact len_ub (by assumption)⟩ | exact hs.ldp | exact At.partC (by assumption))) ?_
  refine R.call ⟨_, _, Tryd.func19, rfl, by kernel_rfl⟩ rfl rfl (rekey_any mo hs) ?_
  rintro _ w61 ⟨rfl, hs⟩
  refine R.ev rfl (E.move rfl) ?_
  refine R.ev rfl (E.extract rfl rfl) ?_
  refine R.ev rfl (E.extract rfl rfl) ?_
  refine R.ev rfl (E.extract rfl rfl) ?_
  refine R.sallocA hs Tryd.zr45 rfl ?_
  intro b12 w12 hs
  first | refine R.cstoreAll hs rfl rfl Tryd.sz45 (by first | rfl | assumption | exact encV_len _ | exact Enc.len _ | exact len_ub (by assumption) | simp [*]) (by first | rfl | assumption | exact encV_len _ | exact Enc.len _ | exact len_ub (by assumption) | simp [*]) (by first | assumption | exact OneL.all | exact Enc.one _ | exact ub_all _ | (repeat' (first | refine List.forall_mem_cons.2 ⟨?_, ?_⟩ | exact List.forall_mem_nil _ | rfl | exact OneC.one | exact KRow.oneC' (by assumption)))) ?_ | refine R.cstore hs rfl rfl Tryd.sz45 (by first | rfl | assumption | exact encV_len _ | exact Enc.len _ | exact len_ub (by assumption) | simp [*]) (by simp [*]) (by first | assumption | exact OneL.all | exact Enc.one _ | exact ub_all _ | (repeat' (first | refine List.forall_mem_cons.2 ⟨?_, ?_⟩ | exact List.forall_mem_nil _ | rfl | exact OneC.one | exact KRow.oneC' (by assumption)))) ?_
  intro w6_7 hs
  try simp only [List.set_cons_zero, List.set_cons_succ] at hs
  refine R.ev rfl (E.assign rfl) ?_
  refine R.ev rfl (E.assign rfl) ?_
  refine R.done ?_
  refine X.keep [(4, _), (7, _), (8, _), (10, _), (11, _), (12, _)] ⟨rfl, rfl, rfl, rfl, rfl, rfl, trivial⟩ ?_
  refine X.next ?_
  refine C.seq ?_
  refine C.region ?_
  refine R.ev rfl (E.assign rfl) ?_
  refine R.done ?_
  refine X.keep [(4, _), (7, _), (8, _), (10, _), (11, _), (12, _), (15, _)] ⟨rfl, rfl, rfl, rfl, rfl, rfl, rfl, trivial⟩ ?_
  refine X.next ?_
  refine C.seq ?_
  refine C.seq ?_
  refine C.region ?_
  refine R.ev rfl (E.assign rfl) ?_
  refine R.done ?_
  refine X.keep [(4, _), (7, _), (8, _), (10, _), (11, _), (12, _), (15, _), (16, _)] ⟨rfl, rfl, rfl, rfl, rfl, rfl, rfl, rfl, trivial⟩ ?_
  refine X.next ?_
  refine C.block ?_
  refine C.loop (T := Nat × Bool) [(4, _), (7, _), (8, _), (10, _), (11, _), (12, _)] (fun (k, b) => [(15, .bool b), (16, .int .i64 (k : Nat))]) (fun (k, b) w' => k ≤ c.length ∧ b = (c.take k).any (insB (rkR mo)) ∧ Sat K3 w' (row b12 45 (encO (rkR mo)) :: row b10 29 (a.1.map ub) :: F :: row b4 41 (encMv mo) :: [])) (fun (k, _) => c.length - k) ((0, false)) ⟨rfl, rfl, rfl, rfl, rfl, rfl, rfl, rfl, trivial⟩ ⟨Nat.zero_le _, rfl, hs⟩ ?_
  rintro ⟨k, b⟩ w7 ⟨hk, hb, hs⟩
  refine C.keep [(4, _), (7, _), (8, _), (10, _), (11, _), (12, _), (15, _), (16, _)] ⟨rfl, rfl, rfl, rfl, rfl, rfl, rfl, rfl, trivial⟩ ?_
  refine C.seq ?_
  refine C.seq ?_
  refine C.region ?_
  refine R.ev rfl (E.move rfl) ?_
  refine R.ev rfl (E.move rfl) ?_
  refine R.ev rfl (E.lenSl rfl Tryd.underlying42) ?_
  refine R.ev rfl (E.lss rfl rfl) ?_
  refine R.done ?_
  refine X.keep [(4, _), (7, _), (8, _), (10, _), (11, _), (12, _), (15, _), (16, _), (40, _)] ⟨rfl, rfl, rfl, rfl, rfl, rfl, rfl, rfl, rfl, trivial⟩ ?_
  refine X.next ?_
  refine C.cdec rfl (fun h40 => ?_) (fun h40 => ?_)
  · obtain ⟨y, bk_y, of_y, hy, my, ly, rfl, Ay⟩ := hs.el (i := k) (ad := ad30) (n := c.length) (c := cap30) (by omega)
    have ay := Ay _ hs
    refine C.skip ?_
    refine X.next ?_
    refine C.seq ?_
    refine C.block ?_
    refine C.drawn (SatS hs) ([6, 8, 15, 17], [0, 1, 2, 3, 4, 5, 7, 9, 10, 11, 12, 13, 14, 16, 18, 19, 20, 21]) (by kernel_rfl) ?_
    have hs := hs.drew
    refine D.evP 0 rfl (by kernel_rfl) rfl (fun _ => hs.to) (fun _ => E.move rfl) ?_
    refine D.evP 1 rfl (by kernel_rfl) rfl (fun _ => hs.to) (fun _ => E.move rfl) ?_
    refine D.split 44 rfl (fun h44 => ?_) (fun h44 => ?_)
    · refine D.skipP 2 rfl (by kernel_rfl) rfl rfl rfl (fun _ => hs.to) ?_
      refine D.skipP 3 rfl (by kernel_rfl) rfl rfl rfl (fun _ => hs.to) ?_
      refine D.skipP 4 rfl (by kernel_rfl) rfl rfl rfl (fun _ => hs.to) ?_
      refine D.skipP 5 rfl (by kernel_rfl) rfl rfl rfl (fun _ => hs.to) ?_
      refine D.skipP 7 rfl (by kernel_rfl) rfl rfl rfl (fun _ => hs.to) ?_
      refine D.skip 6 rfl (by kernel_rfl) rfl rfl rfl hs.to ?_
      refine D.skip 8 rfl (by kernel_rfl) rfl rfl rfl hs.to ?_
      refine D.skipP 9 rfl (by kernel_rfl) rfl rfl rfl (fun _ => hs.to) ?_
      refine D.skipP 10 rfl (by kernel_rfl) rfl rfl rfl (fun _ => hs.to) ?_
      refine D.undefP 11 rfl (by kernel_rfl) rfl rfl (fun _ => hs.to) ?_
      refine D.undefP 12 rfl (by kernel_rfl) rfl rfl (fun _ => hs.to) ?_
      refine D.undefP 13 rfl (by kernel_rfl) rfl rfl (fun _ => hs.to) ?_
      refine D.undefP 14 rfl (by kernel_rfl) rfl rfl (fun _ => hs.to) ?_
      refine D.undefP 16 rfl (by kernel_rfl) rfl rfl (fun _ => hs.to) ?_
      refine D.undef 15 rfl (by kernel_rfl) rfl rfl hs.to ?_
      refine D.undef 17 rfl (by kernel_rfl) rfl rfl hs.to ?_
      refine D.undefP 18 rfl (by kernel_rfl) rfl rfl (fun _ => hs.to) ?_
      refine D.skipP 19 rfl (by kernel_rfl) rfl rfl rfl (fun _ => hs.to) ?_
      refine D.evP 20 rfl (by kernel_rfl) rfl (fun _ => hs.to) (fun _ => E.pickT rfl rfl) ?_
      refine D.evP 21 rfl (by kernel_rfl) rfl (fun _ => hs.to) (fun _ => E.assign rfl) ?_
      refine D.done rfl (by kernel_rfl) ?_
      refine X.keep [(4, _), (7, _), (8, _), (10, _), (11, _), (12, _), (15, _), (16, _)] ⟨rfl, rfl, rfl, rfl, rfl, rfl, rfl, rfl, trivial⟩ ?_
      refine X.blockNormal ?_
      refine X.next ?_
      refine C.region ?_
      refine R.ev rfl (E.move rfl) ?_
      refine R.ev rfl (E.add rfl rfl (by omega) (by omega)) ?_
      refine R.ev rfl (E.assign rfl) ?_
      refine R.done ?_
      refine X.keep [(4, _), (7, _), (8, _), (10, _), (11, _), (12, _), (15, _), (16, _)] ⟨rfl, rfl, rfl, rfl, rfl, rfl, rfl, rfl, trivial⟩ ?_
      have hsn : (c.take (k + 1)).any (insB (rkR mo)) = (b || insB (rkR mo) y) := by rw [take_snoc hy, any_snoc, hb]
      first
        | exact X.again (k + 1, true) ⟨rfl, rfl, rfl, rfl, rfl, rfl, rfl, rfl, trivial⟩ ⟨by omega, by rw [hsn, h44]; rfl, hs⟩ (by show _ - _ < _ - _; omega)
        | exact X.again (k + 1, decide (y.pu = (rkR mo).pu)) ⟨rfl, rfl, rfl, rfl, rfl, rfl, rfl, rfl, trivial⟩ ⟨by omega, by rw [hsn, h44, insB, h53]; rfl, hs⟩ (by show _ - _ < _ - _; omega)
        | exact X.again (k + 1, false) ⟨rfl, rfl, rfl, rfl, rfl, rfl, rfl, rfl, trivial⟩ ⟨by omega, by rw [hsn, h44, insB, h53]; rfl, hs⟩ (by show _ - _ < _ - _; omega)
    · refine D.evPG 2 rfl (by kernel_rfl) rfl rfl rfl (fun _ => hs.to) (fun _ => E.move rfl) ?_
      refine D.evPG 3 rfl (by kernel_rfl) rfl rfl rfl (fun _ => hs.to) (fun _ => E.move rfl) ?_
      refine D.evPG 4 rfl (by kernel_rfl) rfl rfl rfl (fun _ => hs.to) (fun _ => E.indexAddr (i := k) rfl rfl Tryd.underlying42 Tryd.sz49 rfl (by omega)) ?_
      first | refine D.evPG 5 rfl (by kernel_rfl) rfl rfl rfl (fun _ => hs.to) (fun _ => E.fieldAddr0 0 rfl Tryd.underlying49 rfl Tryd.sz3 rfl) ?_ | refine D.evPG 5 rfl (by kernel_rfl) rfl rfl rfl (fun _ => hs.to) (fun _ => E.fieldAddrN 0 rfl Tryd.underlying49 rfl Tryd.sz3 rfl) ?_
      first | refine D.evPG 7 rfl (by kernel_rfl) rfl rfl rfl (fun _ => hs.to) (fun _ => E.fieldAddr0 48 rfl Tryd.underlying45 rfl Tryd.sz3 rfl) ?_ | refine D.evPG 7 rfl (by kernel_rfl) rfl rfl rfl (fun _ => hs.to) (fun _ => E.fieldAddrN 48 rfl Tryd.underlying45 rfl Tryd.sz3 rfl) ?_
      refine D.evG 6 rfl (by kernel_rfl) rfl rfl rfl hs.to (fun _ hS => E.load1 rfl Tryd.underlying3 rfl (by first | exact hS.ldc | exact hS.ld rfl | exact hS.ld (by assumption) | exact by assumption | exact At.cellC (by assumption) | exact At.cellC ((by assumption : ∀ w', Sat _ w' _ → At w' _ _ _) _ hS) | exact (by assumption : ∀ w', Sat _ w' _ → World.cell? w' _ = some _) _ hS)) ?_
      refine D.evG 8 rfl (by kernel_rfl) rfl rfl rfl hs.to (fun _ hS => E.load1 rfl Tryd.underlying3 rfl (by first | exact hS.ldc | exact hS.ld rfl | exact hS.ld (by assumption) | exact by assumption | exact At.cellC (by assumption) | exact At.cellC ((by assumption : ∀ w', Sat _ w' _ → At w' _ _ _) _ hS) | exact (by assumption : ∀ w', Sat _ w' _ → World.cell? w' _ = some _) _ hS)) ?_
      refine D.evPG 9 rfl (by kernel_rfl) rfl rfl rfl (fun _ => hs.to) (fun _ => E.eql rfl rfl) ?_
      refine D.evPG 10 rfl (by kernel_rfl) rfl rfl rfl (fun _ => hs.to) (fun _ => E.move rfl) ?_
      refine D.split 53 rfl (fun h53 => ?_) (fun h53 => ?_)
      · refine D.evPG 11 rfl (by kernel_rfl) rfl rfl rfl (fun _ => hs.to) (fun _ => E.move rfl) ?_
        refine D.evPG 12 rfl (by kernel_rfl) rfl rfl rfl (fun _ => hs.to) (fun _ => E.move rfl) ?_
        refine D.evPG 13 rfl (by kernel_rfl) rfl rfl rfl (fun _ => hs.to) (fun _ => E.indexAddr (i := k) rfl rfl Tryd.underlying42 Tryd.sz49 rfl (by omega)) ?_
        first | refine D.evPG 14 rfl (by kernel_rfl) rfl rfl rfl (fun _ => hs.to) (fun _ => E.fieldAddr0 1 rfl Tryd.underlying49 rfl Tryd.sz32 rfl) ?_ | refine D.evPG 14 rfl (by kernel_rfl) rfl rfl rfl (fun _ => hs.to) (fun _ => E.fieldAddrN 1 rfl Tryd.underlying49 rfl Tryd.sz32 rfl) ?_
        first | refine D.evPG 16 rfl (by kernel_rfl) rfl rfl rfl (fun _ => hs.to) (fun _ => E.fieldAddr0 49 rfl Tryd.underlying45 rfl Tryd.sz32 rfl) ?_ | refine D.evPG 16 rfl (by kernel_rfl) rfl rfl rfl (fun _ => hs.to) (fun _ => E.fieldAddrN 49 rfl Tryd.underlying45 rfl Tryd.sz32 rfl) ?_
        refine D.evG 15 rfl (by kernel_rfl) rfl rfl rfl hs.to (fun _ hS => E.loadRowC rfl Tryd.underlying32 rfl Tryd.sz32 (by first | exact ⟨hS.ldA, by first | rfl | assumption | exact encV_len _ | exact Enc.len _ | exact len_ub (by assumption)⟩ | exact ⟨hS.ldP rfl, by first | rfl | assumption | exact encV_len _ | exact Enc.len _ | exact len_ub (by assumption)⟩ | exact ⟨hS.ldM rfl rfl, by first | rfl | assumption | exact encV_len _ | exact Enc.len _ | exact len_ub (by assumption)⟩ | exact ⟨hS.ldM (by assumption) (by first | rfl | assumption), by first | rfl | assumption | exact encV_len _ | exact Enc.len _ | exact len_ub (by assumption)⟩ | exact ⟨by assumption, by first | rfl | assumption | exact encV_len _ | exact Enc.len _ | exact len_ub (by assumption)⟩ | exact ⟨(by assumption : ∀ w', Sat _ w' _ → At w' _ _ _) _ hS, by first | rfl | assumption | exact encV_len _ | exact Enc.len _ | exact len_ub (by assumption)⟩ | exact hS.ldp | exact At.partC (by assumption) | exact At.partC ((by assumption : ∀ w', Sat _ w' _ → At w' _ _ _) _ hS))) ?_
        refine D.evG 17 rfl (by kernel_rfl) rfl rfl rfl hs.to (fun _ hS => E.loadRowC rfl Tryd.underlying32 rfl Tryd.sz32 (by first | exact ⟨hS.ldA, by first | rfl | assumption | exact encV_len _ | exact Enc.len _ | exact len_ub (by assumption)⟩ | exact ⟨hS.ldP rfl, by first | rfl | assumption | exact encV_len _ | exact Enc.len _ | exact len_ub (by assumption)⟩ | exact ⟨hS.ldM rfl rfl, by first | rfl | assumption | exact encV_len _ | exact Enc.len _ | exact len_ub (by assumption)⟩ | exact ⟨hS.ldM (by assumption) (by first | rfl | assumption), by first | rfl | assumption | exact encV_len _ | exact Enc.len _ | exact len_ub (by assumption)⟩ | exact ⟨by assumption, by first | rfl | assumption | exact encV_len _ | exact Enc.len _ | exact len_ub (by assumption)⟩ | exact ⟨(by assumption : ∀ w', Sat _ w' _ → At w' _ _ _) _ hS, by first | rfl | assumption | exact encV_len _ | exact Enc.len _ | exact len_ub (by assumption)⟩ | exact hS.ldp | exact At.partC (by assumption) | exact At.partC ((by assumption : ∀ w', Sat _ w' _ → At w' _ _ _) _ hS))) ?_
        refine D.evPG 18 rfl (by kernel_rfl) rfl rfl rfl (fun _ => hs.to) (fun _ => (E.eqlAgg 10 rfl rfl Tryd.lv32 rfl Tryd.underlying32 rfl Tryd.gd32 (encP_fits y.pu) (encP_fits (rkR mo).pu)).isB (c := decide (y.pu = (rkR mo).pu)) encP_eq) ?_
        refine D.evPG 19 rfl (by kernel_rfl) rfl rfl rfl (fun _ => hs.to) (fun _ => E.pickT rfl rfl) ?_
        refine D.evP 20 rfl (by kernel_rfl) rfl (fun _ => hs.to) (fun _ => E.pickF rfl rfl) ?_
        refine D.evP 21 rfl (by kernel_rfl) rfl (fun _ => hs.to) (fun _ => E.assign rfl) ?_
        refine D.done rfl (by kernel_rfl) ?_
        refine X.keep [(4, _), (7, _), (8, _), (10, _), (11, _), (12, _), (15, _), (16, _)] ⟨rfl, rfl, rfl, rfl, rfl, rfl, rfl, rfl, trivial⟩ ?_
        refine X.blockNormal ?_
        refine X.next ?_
        refine C.region ?_
        refine R.ev rfl (E.move rfl) ?_
        refine R.ev rfl (E.add rfl rfl (by omega) (by omega)) ?_
        refine R.ev rfl (E.assign rfl) ?_
        refine R.done ?_
        refine X.keep [(4, _), (7, _), (8, _), (10, _), (11, _), (12, _), (15, _), (16, _)] ⟨rfl, rfl, rfl, rfl, rfl, rfl, rfl, rfl, trivial⟩ ?_
        have hsn : (c.take (k + 1)).any (insB (rkR mo)) = (b || insB (rkR mo) y) := by rw [take_snoc hy, any_snoc, hb]
        first
          | exact X.again (k + 1, true) ⟨rfl, rfl, rfl, rfl, rfl, rfl, rfl, rfl, trivial⟩ ⟨by omega, by rw [hsn, h44]; rfl, hs⟩ (by show _ - _ < _ - _; omega)
          | exact X.again (k + 1, decide (y.pu = (rkR mo).pu)) ⟨rfl, rfl, rfl, rfl, rfl, rfl, rfl, rfl, trivial⟩ ⟨by omega, by rw [hsn, h44, insB, h53]; rfl, hs⟩ (by show _ - _ < _ - _; omega)
          | exact X.again (k + 1, false) ⟨rfl, rfl, rfl, rfl, rfl, rfl, rfl, rfl, trivial⟩ ⟨by omega, by rw [hsn, h44, insB, h53]; rfl, hs⟩ (by show _ - _ < _ - _; omega)
      · refine D.skipP 11 rfl (by kernel_rfl) rfl rfl rfl (fun _ => hs.to) ?_
        refine D.skipP 12 rfl (by kernel_rfl) rfl rfl rfl (fun _ => hs.to) ?_
        refine D.skipP 13 rfl (by kernel_rfl) rfl rfl rfl (fun _ => hs.to) ?_
        refine D.skipP 14 rfl (by kernel_rfl) rfl rfl rfl (fun _ => hs.to) ?_
        refine D.skipP 16 rfl (by kernel_rfl) rfl rfl rfl (fun _ => hs.to) ?_
        refine D.skip 15 rfl (by kernel_rfl) rfl rfl rfl hs.to ?_
        refine D.skip 17 rfl (by kernel_rfl) rfl rfl rfl hs.to ?_
        refine D.skipP 18 rfl (by kernel_rfl) rfl rfl rfl (fun _ => hs.to) ?_
        refine D.evPG 19 rfl (by kernel_rfl) rfl rfl rfl (fun _ => hs.to) (fun _ => E.pickF rfl rfl) ?_
        refine D.evP 20 rfl (by kernel_rfl) rfl (fun _ => hs.to) (fun _ => E.pickF rfl rfl) ?_
        refine D.evP 21 rfl (by kernel_rfl) rfl (fun _ => hs.to) (fun _ => E.assign rfl) ?_
        refine D.done rfl (by kernel_rfl) ?_
        refine X.keep [(4, _), (7, _), (8, _), (10, _), (11, _), (12, _), (15, _), (16, _)] ⟨rfl, rfl, rfl, rfl, rfl, rfl, rfl, rfl, trivial⟩ ?_
        refine X.blockNormal ?_
        refine X.next ?_
        refine C.region ?_
        refine R.ev rfl (E.move rfl) ?_
        refine R.ev rfl (E.add rfl rfl (by omega) (by omega)) ?_
        refine R.ev rfl (E.assign rfl) ?_
        refine R.done ?_
        refine X.keep [(4, _), (7, _), (8, _), (10, _), (11, _), (12, _), (15, _), (16, _)] ⟨rfl, rfl, rfl, rfl, rfl, rfl, rfl, rfl, trivial⟩ ?_
        have hsn : (c.take (k + 1)).any (insB (rkR mo)) = (b || insB (rkR mo) y) := by rw [take_snoc hy, any_snoc, hb]
        first
          | exact X.again (k + 1, true) ⟨rfl, rfl, rfl, rfl, rfl, rfl, rfl, rfl, trivial⟩ ⟨by omega, by rw [hsn, h44]; rfl, hs⟩ (by show _ - _ < _ - _; omega)
          | exact X.again (k + 1, decide (y.pu = (rkR mo).pu)) ⟨rfl, rfl, rfl, rfl, rfl, rfl, rfl, rfl, trivial⟩ ⟨by omega, by rw [hsn, h44, insB, h53]; rfl, hs⟩ (by show _ - _ < _ - _; omega)
          | exact X.again (k + 1, false) ⟨rfl, rfl, rfl, rfl, rfl, rfl, rfl, rfl, trivial⟩ ⟨by omega, by rw [hsn, h44, insB, h53]; rfl, hs⟩ (by show _ - _ < _ - _; omega)
  · refine C.exit ?_
    refine X.thenExit ?_
    refine X.loopExit ?_
    refine X.blockExit ?_
    refine X.next ?_
    refine C.seq ?_
    refine C.seq ?_
    refine C.region ?_
    rw [List.take_of_length_le (show c.length ≤ k by omega)] at hb
    first | refine R.ev rfl (E.fieldAddr0 32 rfl Tryd.underlying45 rfl Tryd.sz29 rfl) ?_ | refine R.ev rfl (E.fieldAddrN 32 rfl Tryd.underlying45 rfl Tryd.sz29 rfl) ?_
    refine R.ev rfl (E.loadRowC rfl Tryd.underlying29 rfl Tryd.sz29 (by first | exact ⟨hs.ldA, by first | rfl | assumption | exact encV_len _ | exact Enc.len _ | exact len_ub (by assumption)⟩ | exact ⟨hs.ldP rfl, by first | rfl | assumption | exact encV_len _ | exact Enc.len _ | exact len_ub (by assumption)⟩ | exact ⟨hs.ldM rfl rfl, by first | rfl | assumption | exact encV_len _ | exact Enc.len _ | exact len_ub (by assumption)⟩ | exact ⟨hs.ldM (by assumption) (by first | rfl | assumption), by first | rfl | assumption | exact encV_len _ | exact Enc.len _ | exact len_ub (by assumption)⟩ | exact ⟨by assumption, by first | rfl | assumption | exact encV_len _ | exact Enc.len _ | exact len_ub (by assumption)⟩ | exact hs.ldp | exact At.partC (by assumption))) ?_
    refine R.ev rfl (E.loadRowC rfl Tryd.underlying29 rfl Tryd.sz29 (by first | exact ⟨hs.ldA, by first | rfl | assumption | exact encV_len _ | exact Enc.len _ | exact len_ub (by assumption)⟩ | exact ⟨hs.ldP rfl, by first | rfl | assumption | exact encV_len _ | exact Enc.len _ | exact len_ub (by assumption)⟩ | exact ⟨hs.ldM rfl rfl, by first | rfl | assumption | exact encV_len _ | exact Enc.len _ | exact len_ub (by assumption)⟩ | exact ⟨hs.ldM (by assumption) (by first | rfl | assumption), by first | rfl | assumption | exact encV_len _ | exact Enc.len _ | exact len_ub (by assumption)⟩ | exact ⟨by assumption, by first | rfl | assumption | exact encV_len _ | exact Enc.len _ | exact len_ub (by assumption)⟩ | exact hs.ldp | exact At.partC (by assumption))) ?_
    first | refine R.ev rfl (E.eqV 10 rfl rfl Tryd.lv29 rfl Tryd.underlying29 rfl Tryd.gd29) ?_ | refine R.ev rfl (E.eqId 10 16 rfl rfl Tryd.lv29 rfl Tryd.underlying29 rfl Tryd.gd29 (by assumption) (by assumption)) ?_
    refine R.ev rfl (E.move rfl) ?_
    refine R.split 68 rfl (fun h68 => ?_) (fun h68 => ?_)
    · refine R.gyes rfl rfl ?_
      refine R.ev rfl (E.move rfl) ?_
      refine R.gyes rfl rfl ?_
      refine R.ev rfl (E.move rfl) ?_
      refine R.split 70 rfl (fun h70 => ?_) (fun h70 => ?_)
      · refine R.gskip rfl rfl rfl ?_
        refine R.gskip rfl rfl rfl ?_
        refine R.gskip rfl rfl rfl ?_
        refine R.gyes rfl rfl ?_
        refine R.ev rfl (E.pickT rfl rfl) ?_
        refine R.ev rfl (E.pickT rfl rfl) ?_
        refine R.done ?_
        refine X.keep [(4, _), (7, _), (8, _), (10, _), (11, _), (75, _)] ⟨rfl, rfl, rfl, rfl, rfl, rfl, trivial⟩ ?_
        refine X.next ?_
        refine C.ctrue rfl ?_
        refine C.seq ?_
        refine C.region ?_
        refine R.ev rfl (E.assign rfl) ?_
        refine R.done ?_
        refine X.keep [(6, _)] ⟨rfl, trivial⟩ ?_
        refine X.next ?_
        refine C.ret ?_
        refine X.thenRet ?_
        refine X.ret1 rfl rfl ?_
        exact ⟨rfl, (hs.less (hk2.trans hk3).le).mod⟩
      · refine R.gyes rfl rfl ?_
        refine R.ev rfl (E.move rfl) ?_
        refine R.gyes rfl rfl ?_
        refine R.ev rfl (E.lenSl rfl Tryd.underlying42) ?_
        refine R.gyes rfl rfl ?_
        refine R.ev rfl (E.eql rfl rfl) ?_
        refine R.gyes rfl rfl ?_
        refine R.ev rfl (E.pickF rfl rfl) ?_
        refine R.ev rfl (E.pickT rfl rfl) ?_
        refine R.done ?_
        refine X.keep [(4, _), (7, _), (8, _), (10, _), (11, _), (75, _)] ⟨rfl, rfl, rfl, rfl, rfl, rfl, trivial⟩ ?_
        refine X.next ?_
        refine C.cdec rfl (fun h75 => ?_) (fun h75 => ?_)
        · refine C.seq ?_
          refine C.region ?_
          refine R.ev rfl (E.assign rfl) ?_
          refine R.done ?_
          refine X.keep [(6, _)] ⟨rfl, trivial⟩ ?_
          refine X.next ?_
          refine C.ret ?_
          refine X.thenRet ?_
          refine X.ret1 rfl rfl ?_
          exact ⟨rfl, (hs.less (hk2.trans hk3).le).mod⟩
        · refine C.skip ?_
          refine X.next ?_
          refine C.seq ?_
          refine C.region ?_
          have hno : (rkR mo).au = a → c ≠ [] ∧ ∀ k ∈ c, ¬ (k.n = (rkR mo).n ∧ k.pu = (rkR mo).pu) := by
            first
              | exact fun e => absurd e (of_decide_eq_false h68)
              | (refine fun _ => ⟨fun e => h75 (by rw [e]; rfl), fun k hk g => ?_⟩
                 have hbf : c.any (insB (rkR mo)) = false := by rw [← hb]; exact h70
                 have := List.any_eq_false.1 hbf k hk
                 exact this (by simp [insB, g.1, g.2]))
          have hout := outside hI.ok hfam hc hno
          have hI3 := hI
          refine R.ev rfl (E.move rfl) ?_
          refine R.ev rfl (E.move rfl) ?_
          refine R.ev rfl (E.loadRowC rfl Tryd.underlying41 rfl Tryd.sz41 (by first | exact ⟨hs.ldA, by first | rfl | assumption | exact encV_len _ | exact Enc.len _ | exact len_ub (by assumption)⟩ | exact ⟨hs.ldP rfl, by first | rfl | assumption | exact encV_len _ | exact Enc.len _ | exact len_ub (by assumption)⟩ | exact ⟨hs.ldM rfl rfl, by first | rfl | assumption | exact encV_len _ | exact Enc.len _ | exact len_ub (by assumption)⟩ | exact ⟨hs.ldM (by assumption) (by first | rfl | assumption), by first | rfl | assumption | exact encV_len _ | exact Enc.len _ | exact len_ub (by assumption)⟩ | exact ⟨by assumption, by first | rfl | assumption | exact encV_len _ | exact Enc.len _ | exact len_ub (by assumption)⟩ | exact hs.ldp | exact At.partC (by assumption))) ?_
          refine R.call ⟨_, _, Tryd.func20, rfl, by kernel_rfl⟩ rfl rfl (ladd_any mo hI (by omega) (hs.front (F := F))) ?_
          rintro _ w14 ⟨K4, v4, MK4, MR4, F4, rfl, hk4, hr4, hI4, hw4, hs1⟩
          have hs := hs.back (F := F) hs1
          have hsl := (step_len L mo).1
          refine R.done ?_
          refine X.keep [(7, _), (10, _), (11, _)] ⟨rfl, rfl, rfl, trivial⟩ ?_
          refine X.next ?_
          refine C.seq ?_
          refine C.region ?_
          refine R.ev rfl (E.move rfl) ?_
          refine R.ev rfl (E.loadRowC rfl Tryd.underlying29 rfl Tryd.sz29 (by first | exact ⟨hs.ldA, by first | rfl | assumption | exact encV_len _ | exact Enc.len _ | exact len_ub (by assumption)⟩ | exact ⟨hs.ldP rfl, by first | rfl | assumption | exact encV_len _ | exact Enc.len _ | exact len_ub (by assumption)⟩ | exact ⟨hs.ldM rfl rfl, by first | rfl | assumption | exact encV_len _ | exact Enc.len _ | exact len_ub (by assumption)⟩ | exact ⟨hs.ldM (by assumption) (by first | rfl | assumption), by first | rfl | assumption | exact encV_len _ | exact Enc.len _ | exact len_ub (by assumption)⟩ | exact ⟨by assumption, by first | rfl | assumption | exact encV_len _ | exact Enc.len _ | exact len_ub (by assumption)⟩ | exact hs.ldp | exact At.partC (by assumption))) ?_
          refine R.call ⟨_, _, Tryd.func22, rfl, by kernel_rfl⟩ rfl rfl (chain_any a hI4 (by omega) hs) ?_
          rintro v15 w15 ⟨d, F15, r15, hd, hs⟩
          obtain rfl : c = d := ChA.det hI4.ok.inj (fun _ _ => Iff.rfl) hout hd
          refine R.ev rfl (E.move rfl) ?_
          refine R.call ⟨_, _, Tryd.func21, rfl, by kernel_rfl⟩ rfl rfl (cmpChain_any (A := c) (B := c) hs (by omega)) ?_
          rintro _ w154 ⟨rfl, hs⟩
          refine R.ev rfl (E.assign rfl) ?_
          refine R.done ?_
          refine X.keep [(6, _)] ⟨rfl, trivial⟩ ?_
          refine X.next ?_
          refine C.ret ?_
          refine X.ret1 rfl rfl ?_
          exact ⟨by simp, (hs.less ((hk2.trans hk3).trans hk4).le).mod⟩
    · refine R.gskip rfl rfl rfl ?_
      refine R.gskip rfl rfl rfl ?_
      refine R.gundef rfl rfl ?_
      refine R.gundef rfl rfl ?_
      refine R.gundef rfl rfl ?_
      refine R.gskip rfl rfl rfl ?_
      refine R.ev rfl (E.pickF rfl rfl) ?_
      refine R.done ?_
      refine X.keep [(4, _), (7, _), (8, _), (10, _), (11, _), (75, _)] ⟨rfl, rfl, rfl, rfl, rfl, rfl, trivial⟩ ?_
      refine X.next ?_
      refine C.cfalse rfl ?_
      refine C.skip ?_
      refine X.next ?_
      refine C.seq ?_
      refine C.region ?_
      have hno : (rkR mo).au = a → c ≠ [] ∧ ∀ k ∈ c, ¬ (k.n = (rkR mo).n ∧ k.pu = (rkR mo).pu) := by
        first
          | exact fun e => absurd e (of_decide_eq_false h68)
          | (refine fun _ => ⟨fun e => h75 (by rw [e]; rfl), fun k hk g => ?_⟩
             have hbf : c.any (insB (rkR mo)) = false := by rw [← hb]; exact h70
             have := List.any_eq_false.1 hbf k hk
             exact this (by simp [insB, g.1, g.2]))
      have hout := outside hI.ok hfam hc hno
      have hI3 := hI
      refine R.ev rfl (E.move rfl) ?_
      refine R.ev rfl (E.move rfl) ?_
      refine R.ev rfl (E.loadRowC rfl Tryd.underlying41 rfl Tryd.sz41 (by first | exact ⟨hs.ldA, by first | rfl | assumption | exact encV_len _ | exact Enc.len _ | exact len_ub (by assumption)⟩ | exact ⟨hs.ldP rfl, by first | rfl | assumption | exact encV_len _ | exact Enc.len _ | exact len_ub (by assumption)⟩ | exact ⟨hs.ldM rfl rfl, by first | rfl | assumption | exact encV_len _ | exact Enc.len _ | exact len_ub (by assumption)⟩ | exact ⟨hs.ldM (by assumption) (by first | rfl | assumption), by first | rfl | assumption | exact encV_len _ | exact Enc.len _ | exact len_ub (by assumption)⟩ | exact ⟨by assumption, by first | rfl | assumption | exact encV_len _ | exact Enc.len _ | exact len_ub (by assumption)⟩ | exact hs.ldp | exact At.partC (by assumption))) ?_
      refine R.call ⟨_, _, Tryd.func20, rfl, by kernel_rfl⟩ rfl rfl (ladd_any mo hI (by omega) (hs.front (F := F))) ?_
      rintro _ w14 ⟨K4, v4, MK4, MR4, F4, rfl, hk4, hr4, hI4, hw4, hs1⟩
      have hs := hs.back (F := F) hs1
      have hsl := (step_len L mo).1
      refine R.done ?_
      refine X.keep [(7, _), (10, _), (11, _)] ⟨rfl, rfl, rfl, trivial⟩ ?_
      refine X.next ?_
      refine C.seq ?_
      refine C.region ?_
      refine R.ev rfl (E.move rfl) ?_
      refine R.ev rfl (E.loadRowC rfl Tryd.underlying29 rfl Tryd.sz29 (by first | exact ⟨hs.ldA, by first | rfl | assumption | exact encV_len _ | exact Enc.len _ | exact len_ub (by assumption)⟩ | exact ⟨hs.ldP rfl, by first | rfl | assumption | exact encV_len _ | exact Enc.len _ | exact len_ub (by assumption)⟩ | exact ⟨hs.ldM rfl rfl, by first | rfl | assumption | exact encV_len _ | exact Enc.len _ | exact len_ub (by assumption)⟩ | exact ⟨hs.ldM (by assumption) (by first | rfl | assumption), by first | rfl | assumption | exact encV_len _ | exact Enc.len _ | exact len_ub (by assumption)⟩ | exact ⟨by assumption, by first | rfl | assumption | exact encV_len _ | exact Enc.len _ | exact len_ub (by assumption)⟩ | exact hs.ldp | exact At.partC (by assumption))) ?_
      refine R.call ⟨_, _, Tryd.func22, rfl, by kernel_rfl⟩ rfl rfl (chain_any a hI4 (by omega) hs) ?_
      rintro v15 w15 ⟨d, F15, r15, hd, hs⟩
      obtain rfl : c = d := ChA.det hI4.ok.inj (fun _ _ => Iff.rfl) hout hd
      refine R.ev rfl (E.move rfl) ?_
      refine R.call ⟨_, _, Tryd.func21, rfl, by kernel_rfl⟩ rfl rfl (cmpChain_any (A := c) (B := c) hs (by omega)) ?_
      rintro _ w154 ⟨rfl, hs⟩
      refine R.ev rfl (E.assign rfl) ?_
      refine R.done ?_
      refine X.keep [(6, _)] ⟨rfl, trivial⟩ ?_
      refine X.next ?_
      refine C.ret ?_
      refine X.ret1 rfl rfl ?_
      exact ⟨by simp, (hs.less ((hk2.trans hk3).trans hk4).le).mod⟩

namespace keyringOutsiders
open Go.ChangeShapes Go.WideShapes Go.ChangeAt Go.RowKit
open Go.ChangeMaps (open_string shut_string)
set_option linter.unusedVariables false

theorem own : ownKnob Tryd.prog.godebug = none := by kernel_rfl
theorem laidOut : laidOutB Tryd.prog = true := by kernel_rfl
theorem door_met (os : Os) (args : Array Value) : laidMetH Tryd.prog Rows.keyringOutsidersRow.laid ((World.doorLaid Tryd.prog 400 os).forCall (fun _ _ => 0) ⟨#[], args, []⟩).memory :=
  laidMetH_of_parts3 (fuel := 8) (laidMet_of_run' 8 (by kernel_rfl) (by kernel_rfl)) (by kernel_rfl) (by kernel_rfl)
set_option maxRecDepth 100000 in
theorem lifted (os : Os) (started : os.Started) (H : Type) (enc : TypeId × Value → H) :
    ReturnsInHanded {} Tryd.checked os 4 .any (fun w args => (Rows.keyringOutsidersSpec.pre enc Tryd.prog Tryd.f4 [] false w args ∧ laidMetH Tryd.prog Rows.keyringOutsidersRow.laid w) ∧ sizedMet enc Tryd.prog Tryd.f4 (OpenSpec.ofChange Rows.keyringOutsidersSpec) false w args)
      (Rows.keyringOutsidersSpec.post enc Tryd.prog Tryd.f4 false true false false) := by
  refine returnsInHanded_of_change_and (C := Tryd.checked) (X := fun w _ => laidMetH Tryd.prog Rows.keyringOutsidersRow.laid w) (fun _ _ _ hh h => h.of_heap hh) own started (by kernel_rfl) Tryd.func4
    (ChangeSpec.witness_shaped (enc := enc) (C := Tryd.checked) (os := os) (X := fun w _ => laidMetH Tryd.prog Rows.keyringOutsidersRow.laid w) false (World.doorLaid Tryd.prog 400 os) #[.slice none 0 0, .agg #[.int .u8 0, .int .u8 0, .int .u8 0, .int .u8 0, .int .u8 0, .int .u8 0, .int .u8 0], .int .u8 0] 8 rfl (World.shaped_of_RefB (by kernel_rfl) (by kernel_rfl)) (by kernel_rfl) (by kernel_rfl) (by kernel_rfl) (door_met os _)) ?_
  intro W base args ds gs before hval0 hW _ _ hL _
  have hval : ∀ (j : Nat) t v, Tryd.f4.params[j]? = some t → args[j]? = some v → Value.okWide Tryd.prog W .any base t v := hval0
  have hW' := hW
  obtain ⟨p, q, hA0, hV, rfl, hfz, hnd⟩ := hW
  have hA : DataW.TrodAll enc Tryd.prog W 0 (fun _ => true) true Tryd.f4.params.toList args.toList ds p := hA0
  rw [Tryd.params4] at hA hval
  obtain ⟨v0, vs0, d0, ds0, p0, q0, hargs, rfl, rfl, h0, r0⟩ := trodAll_cons hA
  obtain ⟨v1, vs1, d1, ds1, p1, q1, rfl, rfl, rfl, h1, r1⟩ := trodAll_cons r0
  obtain ⟨v2, vs2, d2, ds2, p2, q2, rfl, rfl, rfl, h2, r2⟩ := trodAll_cons r1
  obtain ⟨rfl, rfl, rfl⟩ := trodAll_nil r2
  obtain rfl : args = #[v0, v1, v2] := by cases args; simp_all
  obtain ⟨rfl, rfl⟩ := trodVars_none hV
  have lt0 : ∀ x ∈ p0, x.block < W.heap.size := by obtain ⟨m, hm⟩ := h0; exact DataW.trod_lt m _ _ _ hm
  have a0 := Eng.argv_of (hval 0 22 v0 rfl rfl) h0
  have lt1 : ∀ x ∈ p1, x.block < W.heap.size := by obtain ⟨m, hm⟩ := h1; exact DataW.trod_lt m _ _ _ hm
  have a1 := Eng.argv_of (hval 1 41 v1 rfl rfl) h1
  have lt2 : ∀ x ∈ p2, x.block < W.heap.size := by obtain ⟨m, hm⟩ := h2; exact DataW.trod_lt m _ _ _ hm
  have a2 := Eng.argv_of (hval 2 5 v2 rfl rfl) h2
  clear hA0 hval0
  refine Calls.mono (koutsiders_walk W (laid_kc hL) v0 a0 v1 a1 v2 a2) fun e W' ⟨v, he, hv, hm⟩ => ?_
  subst he
  subst hv
  have bel := hm.below
  exact ⟨_, rfl, _, _, _, [], _, [], hW', trodAll_mk1 (shut_bool Tryd.underlying4 _), (trodAll_cons_mk (Below.trod laidOut (by kernel_rfl) (of_decide_eq_true (by kernel_rfl)) h0 bel lt0) (trodAll_cons_mk (Below.trod laidOut (by kernel_rfl) (of_decide_eq_true (by kernel_rfl)) h1 bel lt1) (trodAll_cons_mk (Below.trod laidOut (by kernel_rfl) (of_decide_eq_true (by kernel_rfl)) h2 bel lt2) trodAll_mk0))), rfl, bel.frame _, fun h => by cases h⟩

theorem over : Rows.keyringOutsidersRow.holds Tryd.pinned (OpenSpec.ofChange Rows.keyringOutsidersSpec) :=
  OpenClaim.holds_of_wide 4 Tryd.f4 rfl rfl rfl rfl rfl rfl rfl ⟨rfl, rfl, rfl, rfl, rfl⟩ rfl rfl rfl rfl rfl (by kernel_rfl) Tryd.func4 (by kernel_rfl)
    (of_decide_eq_true (by kernel_rfl)) (by unfold Func.isWrapper; first | (rw [if_pos (by decide +kernel)]; kernel_rfl) | (rw [if_neg (by decide +kernel)]; exact ⟨rfl, rfl⟩))
    (fun os started H enc _ => lifted os started H enc)
end keyringOutsiders
/-- the statement: the tied card -/
theorem keyringOutsiders_holds : Rows.KeyringOutsidersCardSaid :=
  Claim7.holds_tied_plain_at .later [] [.data] true (true, "c0ab8a36735131c8a9cd87cc07d7b40f6a8e739a1cb5823313f320602ea95481") false
    keyringOutsiders.over (fun _ h => by cases h) (by kernel_rfl) (fun _ h => by cases h) keyringOutsiders_row_tie rfl ⟨rfl, rfl⟩ (by kernel_rfl) rfl
    (fun f fn hf hfn => by
      obtain rfl : f = 4 := Option.some.inj ((show Tryd.prog.funcNamed "bulletin/bulletinlaw19.KeyringOutsiders" = some 4 by kernel_rfl).symm.trans hf) |>.symm
      obtain rfl : fn = Tryd.f4 := (Option.some.inj (Tryd.func4.symm.trans hfn)).symm
      exact ⟨by kernel_rfl, fun j t ht => by
        rw [Tryd.params4] at ht
        have ht := List.mem_of_getElem? (by simpa using ht)
        have key : ∀ t ∈ ([22, 41, 5] : List TypeId), Tryd.prog.wantsStandIn t = false := by
          intro t ht
          simp only [List.mem_cons, List.not_mem_nil, or_false] at ht
          rcases ht with rfl | rfl | rfl <;> kernel_rfl
        exact key t (by simpa using ht)⟩)
    (by kernel_rfl)
#print axioms keyringOutsiders_holds
end Go.Proofs.YtbkgibgomohdjaaDoor
