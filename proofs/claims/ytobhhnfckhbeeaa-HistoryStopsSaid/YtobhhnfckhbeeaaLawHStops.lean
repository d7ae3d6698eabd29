/-
  HistoryStops returns true for every input. No condition.
-/
import Derived.Test.YtobhhnfckhbeeaaRows
import Derived.Test.YtobhhnfckhbeeaaPlay
namespace Go.Eng
open Go.RowKit
theorem X.resS {P : Program} {n : Nn} {g : Env} {w : World} {fn : Func} {F : Value → World → Prop} {p0 b0 off0 : Nat} {v : Value} {t0 : TypeId} {td0 : TypeDesc} (hr : fn.results = #[.cell p0 t0]) (h0 : lk g p0 = some (.pointer (some ⟨b0, off0, none⟩))) (hu0 : P.underlying t0 = some td0) (ht0 : isAggD td0 = false) (hc0 : w.cell? ⟨b0, off0, none⟩ = some v) (h : F v w) (hn : n.dfs = [] := by rfl) : X (BodyQ P fn F) .ret n g w := X.leave0 hn fun a f => by
  refine ⟨v, ?_, h⟩
  simp [results, hr, asAddr, loadVar, run_isAgg hu0, ht0, load, Sem.run, hc0, f.known p0 _ h0]
end Go.Eng
namespace Go.Proofs.Ytobhhnfckhbeeaa
open Go.Eng Go.RowKit Go.Sort

def stS (x : HEnt) (t : Nat × Hi) (y : HEnt) : Nat × Hi := (t.1 + 1, (t.2.addS x).goneS y.id)
def stJ (q : Nat) (t : Nat × Hi) : Option Code := if t.1 = 1 + q then some (.exit 0) else none
theorem stS_fold (x : HEnt) : ∀ (L : List HEnt) (t : Nat × Hi), (L.foldl (stS x) t).1 = t.1 + L.length
  | [], t => rfl
  | y :: L, t => by rw [List.foldl_cons, stS_fold x L]; simp [stS]; omega
theorem stS_run (x : HEnt) (q : Nat) : ∀ (L : List HEnt) (t : Nat × Hi), t.1 ≤ q → (runO (stS x) (fun s => (stJ q s).isNone) t L).1 = min (1 + q) (t.1 + L.length)
  | [], t, h => by simp [runO]; omega
  | y :: L, t, h => by
    unfold runO
    have e : (stS x t y).1 = t.1 + 1 := rfl
    by_cases hq : t.1 = q
    · have : stJ q (stS x t y) = some (.exit 0) := if_pos (by rw [e]; omega)
      simp only [this, Option.isNone_some, Bool.false_eq_true, if_false]
      rw [e]; simp; omega
    · have : stJ q (stS x t y) = none := if_neg (by rw [e]; omega)
      simp only [this, Option.isNone_none, if_true]
      rw [stS_run x q L _ (by rw [e]; omega), e]; simp; omega
theorem stJ_cases (q : Nat) (t : Nat × Hi) : stJ q t = none ∨ stJ q t = some (.exit 0) := by
  unfold stJ; split
  · exact .inr rfl
  · exact .inl rfl

theorem HiL.inSub {p : Nat} {s : Hi} {F : Hl} {Hs : List Hl} (h : HiL p s F) (k : ∀ z ∈ F, z ∈ Hs.flatten) : HiIn p s Hs := by
  have : FIn F Hs := ⟨k⟩
  exact inferInstance
theorem stops_walk (w : World) (v0 : Value) (a0 : ArgV Try.prog w 34 v0) (v1 : Value) (a1 : ArgV Try.prog w 5 v1) (v2 : Value) (a2 : ArgV Try.prog w 24 v2) : Ret Try.prog 6 #[v0, v1, v2] w fun r w' => r = .bool true ∧ Mod [] w w' := by
  obtain ⟨ad, cap, ops, rfl, hc, hcm, hr⟩ := argv_o a0
  obtain ⟨sb, rfl⟩ := argv_u8 a1 Try.underlying5
  obtain ⟨x, rfl⟩ := argv_x a2
  unfold maxLen at hcm
  have hsb := sb.toNat_lt
  have hs := Sat.start w
  refine Ret.enter (n := 67) (args := [.slice ad ops.length cap, ub sb, evH x]) Try.func6 rfl rfl ?_
  refine C.keep [(0, _), (1, _), (2, _)] ⟨rfl, rfl, rfl, trivial⟩ ?_
  refine C.seq ?_
  refine C.region ?_
  refine R.sbox1 hs rfl rfl rfl ?_
  intro b4 w4 hs
  refine R.sboxA hs rfl rfl ?_
  intro b5 w5 hs
  refine R.salloc1 hs Try.zr4 rfl rfl ?_
  intro b6 w6 hs
  refine R.done ?_
  refine X.keep [(0, _), (4, _), (5, _), (6, _)] ⟨rfl, rfl, rfl, rfl, trivial⟩ ?_
  refine X.next ?_
  refine C.seq ?_
  refine C.seq ?_
  refine C.region ?_
  refine R.call ⟨_, _, Try.func13, rfl, by kernel_rfl⟩ rfl rfl (known_any hs) ?_
  rintro _ w1 ⟨rfl, hs⟩
  refine R.ev rfl (E.notT rfl) ?_
  refine R.done ?_
  refine X.keep [(0, _), (4, _), (5, _), (6, _), (15, _)] ⟨rfl, rfl, rfl, rfl, rfl, trivial⟩ ?_
  refine X.next ?_
  refine C.cfalse rfl ?_
  refine C.skip ?_
  refine X.next ?_
  refine C.seq ?_
  refine C.region ?_
  refine R.ev rfl (E.move rfl) ?_
  refine R.call ⟨_, _, Try.func17, rfl, by kernel_rfl⟩ rfl rfl (play_any hs (by omega)) ?_
  rintro _ w3 ⟨K3, p, s, L, v3, F3, rfl, hk3, hr3, hI, hw3, hs⟩
  have o3 : OneC v3 := ⟨KRow.oneC' hr3⟩
  obtain ⟨ad3, cap3, rfl, hsl3, hc3⟩ := hr3.ex
  have hIl := hI.len
  refine R.ev rfl (E.move rfl) ?_
  refine R.ev rfl (E.extract rfl rfl) ?_
  refine R.ev rfl (E.extract rfl rfl) ?_
  refine R.ev rfl (E.extract rfl rfl) ?_
  refine R.ev rfl (E.extract rfl rfl) ?_
  refine R.salloc1 hs Try.zr35 rfl rfl ?_
  intro b7 w7 hs
  refine R.salloc1 hs Try.zr36 rfl rfl ?_
  intro b8 w8 hs
  refine R.cstore1 hs rfl rfl Try.sz35 (by first | decide | simp [*]) (by first | rfl | exact OneC.one | exact KRow.oneC' (by assumption)) ?_
  intro w3_9 hs
  try simp only [List.set_cons_zero, List.set_cons_succ] at hs
  refine R.cstore1 hs rfl rfl Try.sz36 (by first | decide | simp [*]) (by first | rfl | exact OneC.one | exact KRow.oneC' (by assumption)) ?_
  intro w3_10 hs
  try simp only [List.set_cons_zero, List.set_cons_succ] at hs
  refine R.ev rfl (E.assign rfl) ?_
  refine R.ev rfl (E.assign rfl) ?_
  refine R.done ?_
  refine X.keep [(4, _), (5, _), (6, _), (7, _), (8, _), (10, _)] ⟨rfl, rfl, rfl, rfl, rfl, rfl, trivial⟩ ?_
  refine X.next ?_
  refine C.seq ?_
  refine C.seq ?_
  refine C.region ?_
  refine R.ev rfl (E.move rfl) ?_
  refine R.ev rfl (E.notT rfl) ?_
  refine R.done ?_
  refine X.keep [(4, _), (5, _), (6, _), (7, _), (8, _), (24, _)] ⟨rfl, rfl, rfl, rfl, rfl, rfl, trivial⟩ ?_
  refine X.next ?_
  refine C.cfalse rfl ?_
  refine C.skip ?_
  refine X.next ?_
  refine C.seq ?_
  refine C.region ?_
  refine R.salloc1 hs Try.zr3 rfl rfl ?_
  intro b11 w11 hs
  refine R.cstore1 hs rfl rfl Try.sz3 (by first | decide | simp [*]) (by first | rfl | exact OneC.one | exact KRow.oneC' (by assumption)) ?_
  intro w6_1 hs
  try simp only [List.set_cons_zero, List.set_cons_succ] at hs
  refine R.done ?_
  refine X.keep [(4, _), (5, _), (6, _), (7, _), (8, _), (11, _)] ⟨rfl, rfl, rfl, rfl, rfl, rfl, trivial⟩ ?_
  refine X.next ?_
  refine C.seq ?_
  refine C.region ?_
  refine R.ev rfl (E.load1 rfl Try.underlying5 rfl (by first | exact hs.ldc | exact hs.ld rfl | exact hs.ld (by assumption) | exact by assumption | exact At.cellC (by assumption))) ?_
  refine R.ev rfl ((E.conv rfl Try.underlying5 Try.underlying3).isI (c := (sb.toNat : Int)) (wrap_i64 (by omega) (by omega))) ?_
  refine R.ev rfl ((E.rem rfl rfl (by omega) (by omega)).isI (c := ((sb.toNat % 20 : Nat) : Int)) (by omega)) ?_
  refine R.ev rfl ((E.add rfl rfl (by omega) (by omega)).isI (c := ((1 + sb.toNat % 20 : Nat) : Int)) (by omega)) ?_
  refine R.ev rfl (E.load1 rfl Try.underlying36 rfl (by first | exact hs.ldc | exact hs.ld rfl | exact hs.ld (by assumption) | exact by assumption | exact At.cellC (by assumption))) ?_
  refine R.ev rfl (E.lenSl rfl Try.underlying36) ?_
  refine R.ev rfl ((E.min2 rfl rfl).isI (c := ((min (1 + sb.toNat % 20) L.length : Nat) : Int)) (by omega)) ?_
  refine R.ev rfl (E.assign rfl) ?_
  refine R.done ?_
  refine X.keep [(4, _), (5, _), (6, _), (7, _), (8, _), (11, _), (12, _)] ⟨rfl, rfl, rfl, rfl, rfl, rfl, rfl, trivial⟩ ?_
  refine X.next ?_
  refine C.seq ?_
  refine C.seq ?_
  refine C.region ?_
  refine R.ev rfl (E.load1 rfl Try.underlying35 rfl (by first | exact hs.ldc | exact hs.ld rfl | exact hs.ld (by assumption) | exact by assumption | exact At.cellC (by assumption))) ?_
  refine R.call ⟨_, _, Try.func23, rfl, by kernel_rfl⟩ rfl rfl (all_any (ptr p) rfl hs) ?_
  rintro _ w8 ⟨b8_, rfl, hs⟩
  generalize hq : sb.toNat % 20 = q
  refine R.done ?_
  refine X.keep [(4, _), (5, _), (6, _), (7, _), (8, _), (11, _), (12, _), (33, _)] ⟨rfl, rfl, rfl, rfl, rfl, rfl, rfl, rfl, trivial⟩ ?_
  refine X.next ?_
  refine C.block ?_
  refine C.rangeL (σ := Nat × Hi) (fun t G => ∃ F1, G = row b11 3 [.int .i64 (t.1 : Nat)] ++ (row b8 36 [.slice ad3 L.length cap3] ++ (row b7 35 [ptr p] ++ (row b5 24 (encH x) ++ (row b4 5 [ub sb] ++ F1)))) ∧ HiL p t.2 F1) (stS x) (stJ q) ((0, s)) rfl rfl ⟨_, _, Try.func48, rfl, by kernel_rfl⟩ rfl (all1_iter (Hs := (row b11 3 [.int .i64 ((0 : Nat) : Int)] ++ (row b8 36 [.slice ad3 L.length cap3] ++ (row b7 35 [ptr p] ++ (row b5 24 (encH x) ++ (row b4 5 [ub sb] ++ F3))))) :: row b8_ 35 [ptr p] :: row b6 4 [.bool false] :: []) hI.ord (hw3.inSub (fun z hz => by simp [hz])) inferInstance) (hs.to) (⟨F3, rfl, hw3⟩) (if_neg (by omega)) ?_ ?_
  · rintro l c ⟨n, s1⟩ G1 R1 pre y post w1 hx hst hj1 ⟨F1, rfl, hw1⟩ hs
    have hn : n = pre.length := by have := congrArg Prod.fst hst; rw [stS_fold] at this; simpa using this
    have hny : L[n]? = some y := by rw [hx, hn]; simp
    have hnl := (List.getElem?_eq_some_iff.1 hny).1
    have hs : Sat K3 w1 (lpP l c .ready none :: row b11 3 [.int .i64 (n : Nat)] :: row b8 36 [.slice ad3 L.length cap3] :: row b7 35 [ptr p] :: row b5 24 (encH x) :: row b4 5 [ub sb] :: F1 :: R1) := hs.perm (by simp [List.append_assoc])
    obtain ⟨z, bk_z, of_z, hz, mz, lz, rfl, Az⟩ := (hs.to (Hs := [])).el (i := n) (ad := ad3) (n := L.length) (c := cap3) (by omega)
    obtain rfl : y = z := by rw [hny] at hz; simpa using hz
    refine C.keep [(4, _), (5, _), (6, _), (7, _), (8, _), (11, _), (12, _), (34, _)] ⟨rfl, rfl, rfl, rfl, rfl, rfl, rfl, rfl, trivial⟩ ?_
    refine C.region ?_
    refine R.sallocA hs Try.zr29 rfl ?_
    intro b13 w13 hs
    first | refine R.cstoreAll hs rfl rfl Try.sz29 (by first | rfl | assumption | exact encV_len _ | exact Enc.len _ | exact len_ub (by assumption) | simp [*]) (by first | rfl | assumption | exact encV_len _ | exact Enc.len _ | exact len_ub (by assumption) | simp [*]) (by first | assumption | exact OneL.all | exact Enc.one _ | exact ub_all _ | (repeat' (first | refine List.forall_mem_cons.2 ⟨?_, ?_⟩ | exact List.forall_mem_nil _ | rfl | exact OneC.one | exact KRow.oneC' (by assumption)))) ?_ | refine R.cstore hs rfl rfl Try.sz29 (by first | rfl | assumption | exact encV_len _ | exact Enc.len _ | exact len_ub (by assumption) | simp [*]) (by simp [*]) (by first | assumption | exact OneL.all | exact Enc.one _ | exact ub_all _ | (repeat' (first | refine List.forall_mem_cons.2 ⟨?_, ?_⟩ | exact List.forall_mem_nil _ | rfl | exact OneC.one | exact KRow.oneC' (by assumption)))) ?_
    intro w9_1 hs
    try simp only [List.set_cons_zero, List.set_cons_succ] at hs
    refine R.done ?_
    refine X.keep [(4, _), (5, _), (6, _), (7, _), (8, _), (11, _), (12, _), (13, _)] ⟨rfl, rfl, rfl, rfl, rfl, rfl, rfl, rfl, trivial⟩ ?_
    refine X.begin_ (c := c) (pd := none) hs ?_
    intro wb0 hs
    refine C.keep [(4, _), (5, _), (6, _), (7, _), (8, _), (11, _), (12, _), (13, _)] ⟨rfl, rfl, rfl, rfl, rfl, rfl, rfl, rfl, trivial⟩ ?_
    refine C.block ?_
    refine C.seq ?_
    refine C.seq ?_
    refine C.drawn (SatS hs) ([0, 1, 5, 7, 8, 10], [2, 3, 4, 9, 11, 12]) (by kernel_rfl) ?_
    have hs := hs.drew
    refine D.ev 0 rfl (by kernel_rfl) rfl hs.to (fun _ hS => E.load1 rfl Try.underlying3 rfl (by first | exact hS.ldc | exact hS.ld rfl | exact hS.ld (by assumption) | exact by assumption | exact At.cellC (by assumption) | exact At.cellC ((by assumption : ∀ w', Sat _ w' _ → At w' _ _ _) _ hS) | exact (by assumption : ∀ w', Sat _ w' _ → World.cell? w' _ = some _) _ hS)) ?_
    refine D.ev 1 rfl (by kernel_rfl) rfl hs.to (fun _ hS => E.load1 rfl Try.underlying36 rfl (by first | exact hS.ldc | exact hS.ld rfl | exact hS.ld (by assumption) | exact by assumption | exact At.cellC (by assumption) | exact At.cellC ((by assumption : ∀ w', Sat _ w' _ → At w' _ _ _) _ hS) | exact (by assumption : ∀ w', Sat _ w' _ → World.cell? w' _ = some _) _ hS)) ?_
    refine D.evP 2 rfl (by kernel_rfl) rfl (fun _ => hs.to) (fun _ => E.lenSl rfl Try.underlying36) ?_
    refine D.evP 3 rfl (by kernel_rfl) rfl (fun _ => hs.to) (fun _ => (E.geq rfl rfl).isF (by omega)) ?_
    refine D.evP 4 rfl (by kernel_rfl) rfl (fun _ => hs.to) (fun _ => E.move rfl) ?_
    refine D.evG 5 rfl (by kernel_rfl) rfl rfl rfl hs.to (fun _ hS => E.loadRowC rfl Try.underlying29 rfl Try.sz29 (by first | exact ⟨hS.ldA, by first | rfl | assumption | exact encV_len _ | exact Enc.len _ | exact len_ub (by assumption)⟩ | exact ⟨hS.ldP rfl, by first | rfl | assumption | exact encV_len _ | exact Enc.len _ | exact len_ub (by assumption)⟩ | exact ⟨hS.ldM rfl rfl, by first | rfl | assumption | exact encV_len _ | exact Enc.len _ | exact len_ub (by assumption)⟩ | exact ⟨hS.ldM (by assumption) (by first | rfl | assumption), by first | rfl | assumption | exact encV_len _ | exact Enc.len _ | exact len_ub (by assumption)⟩ | exact ⟨by assumption, by first | rfl | assumption | exact encV_len _ | exact Enc.len _ | exact len_ub (by assumption)⟩ | exact ⟨(by assumption : ∀ w', Sat _ w' _ → At w' _ _ _) _ hS, by first | rfl | assumption | exact encV_len _ | exact Enc.len _ | exact len_ub (by assumption)⟩ | exact hS.ldp | exact At.partC (by assumption) | exact At.partC ((by assumption : ∀ w', Sat _ w' _ → At w' _ _ _) _ hS))) ?_
    refine D.evG 7 rfl (by kernel_rfl) rfl rfl rfl hs.to (fun _ hS => E.load1 rfl Try.underlying36 rfl (by first | exact hS.ldc | exact hS.ld rfl | exact hS.ld (by assumption) | exact by assumption | exact At.cellC (by assumption) | exact At.cellC ((by assumption : ∀ w', Sat _ w' _ → At w' _ _ _) _ hS) | exact (by assumption : ∀ w', Sat _ w' _ → World.cell? w' _ = some _) _ hS)) ?_
    refine D.evG 8 rfl (by kernel_rfl) rfl rfl rfl hs.to (fun _ hS => E.load1 rfl Try.underlying3 rfl (by first | exact hS.ldc | exact hS.ld rfl | exact hS.ld (by assumption) | exact by assumption | exact At.cellC (by assumption) | exact At.cellC ((by assumption : ∀ w', Sat _ w' _ → At w' _ _ _) _ hS) | exact (by assumption : ∀ w', Sat _ w' _ → World.cell? w' _ = some _) _ hS)) ?_
    refine D.evPG 9 rfl (by kernel_rfl) rfl rfl rfl (fun _ => hs.to) (fun _ => E.indexAddr (i := n) rfl rfl Try.underlying36 Try.sz24 rfl (by omega)) ?_
    refine D.evG 10 rfl (by kernel_rfl) rfl rfl rfl hs.to (fun _ hS => E.loadRow rfl Try.underlying24 rfl Try.sz24 (Az _ hS.to) lz) ?_
    refine D.act 6 rfl (by kernel_rfl) ?_
    refine R.gyes rfl rfl ?_
    refine R.call ⟨_, _, Try.func24, rfl, by kernel_rfl⟩ rfl rfl (of_any y hs) ?_
    rintro _ w10 ⟨rfl, hs⟩
    refine D.back hs.to ?_
    refine D.evPG 11 rfl (by kernel_rfl) rfl rfl rfl (fun _ => hs.to) (fun _ => (E.neqAgg 10 rfl rfl Try.lv24 rfl Try.underlying24 rfl Try.gd24 (encH_fits _ (Enc.len _)) (encH_fits _ (Enc.len _))).isB (c := false) (by rw [encH_eq (Enc.len _) (Enc.len _)]; simp)) ?_
    refine D.evP 12 rfl (by kernel_rfl) rfl (fun _ => hs.to) (fun _ => E.pickF rfl rfl) ?_
    refine D.done rfl (by kernel_rfl) ?_
    refine X.keep [(4, _), (5, _), (6, _), (7, _), (11, _), (12, _), (13, _), (47, _)] ⟨rfl, rfl, rfl, rfl, rfl, rfl, rfl, rfl, trivial⟩ ?_
    refine X.next ?_
    refine C.cfalse rfl ?_
    refine C.skip ?_
    refine X.next ?_
    refine C.seq ?_
    refine C.region ?_
    refine R.ev rfl (E.load1 rfl Try.underlying3 rfl (by first | exact hs.ldc | exact hs.ld rfl | exact hs.ld (by assumption) | exact by assumption | exact At.cellC (by assumption))) ?_
    refine R.ev rfl ((E.add rfl rfl (by omega) (by omega)).isI (c := ((n + 1 : Nat) : Int)) (by omega)) ?_
    refine R.cstore1 hs rfl rfl Try.sz3 (by first | decide | simp [*]) (by first | rfl | exact OneC.one | exact KRow.oneC' (by assumption)) ?_
    intro w12_2 hs
    try simp only [List.set_cons_zero, List.set_cons_succ] at hs
    refine R.done ?_
    refine X.keep [(4, _), (5, _), (6, _), (7, _), (11, _), (12, _), (13, _)] ⟨rfl, rfl, rfl, rfl, rfl, rfl, rfl, trivial⟩ ?_
    refine X.next ?_
    refine C.seq ?_
    refine C.drawn (SatS hs) ([0, 1], []) (by kernel_rfl) ?_
    have hs := hs.drew
    refine D.ev 0 rfl (by kernel_rfl) rfl hs.to (fun _ hS => E.load1 rfl Try.underlying35 rfl (by first | exact hS.ldc | exact hS.ld rfl | exact hS.ld (by assumption) | exact by assumption | exact At.cellC (by assumption) | exact At.cellC ((by assumption : ∀ w', Sat _ w' _ → At w' _ _ _) _ hS) | exact (by assumption : ∀ w', Sat _ w' _ → World.cell? w' _ = some _) _ hS)) ?_
    refine D.ev 1 rfl (by kernel_rfl) rfl hs.to (fun _ hS => E.loadRowC rfl Try.underlying24 rfl Try.sz24 (by first | exact ⟨hS.ldA, by first | rfl | assumption | exact encV_len _ | exact Enc.len _ | exact len_ub (by assumption)⟩ | exact ⟨hS.ldP rfl, by first | rfl | assumption | exact encV_len _ | exact Enc.len _ | exact len_ub (by assumption)⟩ | exact ⟨hS.ldM rfl rfl, by first | rfl | assumption | exact encV_len _ | exact Enc.len _ | exact len_ub (by assumption)⟩ | exact ⟨hS.ldM (by assumption) (by first | rfl | assumption), by first | rfl | assumption | exact encV_len _ | exact Enc.len _ | exact len_ub (by assumption)⟩ | exact ⟨by assumption, by first | rfl | assumption | exact encV_len _ | exact Enc.len _ | exact len_ub (by assumption)⟩ | exact ⟨(by assumption : ∀ w', Sat _ w' _ → At w' _ _ _) _ hS, by first | rfl | assumption | exact encV_len _ | exact Enc.len _ | exact len_ub (by assumption)⟩ | exact hS.ldp | exact At.partC (by assumption) | exact At.partC ((by assumption : ∀ w', Sat _ w' _ → At w' _ _ _) _ hS))) ?_
    refine D.act 2 rfl (by kernel_rfl) ?_
    refine R.call ⟨_, _, Try.func14, rfl, by kernel_rfl⟩ rfl rfl (to_any x hs) ?_
    rintro _ w13 ⟨rfl, hs⟩
    refine D.back hs.to ?_
    refine D.act 3 rfl (by kernel_rfl) ?_
    refine R.call ⟨_, _, Try.func20, rfl, by kernel_rfl⟩ rfl rfl (add_any x (hs.front (F := F1))) ?_
    rintro _ w133 ⟨rfl, F4, hw4, hs1⟩
    have hs := hs.back (F := F1) hs1
    refine D.backT (by kernel_rfl) ?_
    refine D.done rfl (by kernel_rfl) ?_
    refine X.keep [(4, _), (6, _), (7, _), (11, _), (12, _), (13, _)] ⟨rfl, rfl, rfl, rfl, rfl, rfl, trivial⟩ ?_
    refine X.next ?_
    refine C.seq ?_
    refine C.region ?_
    refine R.ev rfl (E.load1 rfl Try.underlying35 rfl (by first | exact hs.ldc | exact hs.ld rfl | exact hs.ld (by assumption) | exact by assumption | exact At.cellC (by assumption))) ?_
    first | refine R.ev rfl (E.fieldAddr0 0 rfl Try.underlying29 rfl Try.sz27 rfl) ?_ | refine R.ev rfl (E.fieldAddrN 0 rfl Try.underlying29 rfl Try.sz27 rfl) ?_
    refine R.ev rfl (E.loadRowC rfl Try.underlying27 rfl Try.sz27 (by first | exact ⟨hs.ldA, by first | rfl | assumption | exact encV_len _ | exact Enc.len _ | exact len_ub (by assumption)⟩ | exact ⟨hs.ldP rfl, by first | rfl | assumption | exact encV_len _ | exact Enc.len _ | exact len_ub (by assumption)⟩ | exact ⟨hs.ldM rfl rfl, by first | rfl | assumption | exact encV_len _ | exact Enc.len _ | exact len_ub (by assumption)⟩ | exact ⟨hs.ldM (by assumption) (by first | rfl | assumption), by first | rfl | assumption | exact encV_len _ | exact Enc.len _ | exact len_ub (by assumption)⟩ | exact ⟨by assumption, by first | rfl | assumption | exact encV_len _ | exact Enc.len _ | exact len_ub (by assumption)⟩ | exact hs.ldp | exact At.partC (by assumption))) ?_
    refine R.call ⟨_, _, Try.func21, rfl, by kernel_rfl⟩ rfl rfl (setGone_any y.id (hs.front (F := F4))) ?_
    rintro _ w143 ⟨rfl, F5, hw5, hs1⟩
    have hs := hs.back (F := F4) hs1
    refine R.done ?_
    refine X.keep [(4, _), (6, _), (11, _), (12, _)] ⟨rfl, rfl, rfl, rfl, trivial⟩ ?_
    refine X.next ?_
    refine C.seq ?_
    refine C.region ?_
    refine R.ev rfl (E.load1 rfl Try.underlying3 rfl (by first | exact hs.ldc | exact hs.ld rfl | exact hs.ld (by assumption) | exact by assumption | exact At.cellC (by assumption))) ?_
    refine R.ev rfl (E.load1 rfl Try.underlying5 rfl (by first | exact hs.ldc | exact hs.ld rfl | exact hs.ld (by assumption) | exact by assumption | exact At.cellC (by assumption))) ?_
    refine R.ev rfl ((E.conv rfl Try.underlying5 Try.underlying3).isI (c := (sb.toNat : Int)) (wrap_i64 (by omega) (by omega))) ?_
    refine R.ev rfl ((E.rem rfl rfl (by omega) (by omega)).isI (c := ((q : Nat) : Int)) (by omega)) ?_
    refine R.ev rfl ((E.add rfl rfl (by omega) (by omega)).isI (c := ((1 + q : Nat) : Int)) (by omega)) ?_
    refine R.ev rfl (E.eql rfl rfl) ?_
    refine R.done ?_
    refine X.keep [(6, _), (11, _), (12, _), (63, _)] ⟨rfl, rfl, rfl, rfl, trivial⟩ ?_
    refine X.next ?_
    refine C.cdec rfl (fun h63 => ?_) (fun h63 => ?_)
    · refine C.exit ?_
      refine X.blockOther rfl ?_
      refine X.rndExit (c := c) (st := .busy) (pd := none) hs ?_
      intro we0 hs
      have hj : stJ q (stS x (n, s1) y) = some (.exit 0) := if_pos (show n + 1 = 1 + q by omega)
      rw [hj]
      exact ⟨rfl, row b11 3 [.int .i64 ((n + 1 : Nat) : Int)] ++ (row b8 36 [.slice (some ⟨bk_z, of_z, none⟩) L.length cap3] ++ (row b7 35 [ptr p] ++ (row b5 24 (encH x) ++ (row b4 5 [ub sb] ++ F5)))), ⟨F5, rfl, hw5⟩, show Sat K3 _ (lpP l c .done (some (.exit 0)) :: _ :: R1) from hs.to⟩
    · refine C.skip ?_
      refine X.blockNormal ?_
      refine X.rndEnd (c := c) (st := .busy) (pd := none) hs ?_
      intro we0 hs
      have hj : stJ q (stS x (n, s1) y) = none := if_neg (show ¬ n + 1 = 1 + q by omega)
      rw [hj]
      exact ⟨rfl, row b11 3 [.int .i64 ((n + 1 : Nat) : Int)] ++ (row b8 36 [.slice (some ⟨bk_z, of_z, none⟩) L.length cap3] ++ (row b7 35 [ptr p] ++ (row b5 24 (encH x) ++ (row b4 5 [ub sb] ++ F5)))), ⟨F5, rfl, hw5⟩, show Sat K3 _ (lpP l c .ready none :: _ :: R1) from hs.to⟩
  · rintro D0 G2 w2 hb2 hs
    have hnn := stS_run x q L (0, s) (Nat.zero_le _)
    generalize runO (stS x) (fun s => (stJ q s).isNone) (0, s) L = t at hb2 hnn ⊢
    obtain ⟨n, s2⟩ := t
    obtain ⟨F1, rfl, hw1⟩ := hb2
    simp only [Nat.zero_add] at hnn
    have hs : Sat K3 w2 (row b11 3 [.int .i64 (n : Nat)] :: row b6 4 [.bool false] :: dfP D0 (some []) :: []) := (hs.perm (Hs' := row b11 3 [.int .i64 (n : Nat)] :: row b8 36 [.slice ad3 L.length cap3] :: row b7 35 [ptr p] :: row b5 24 (encH x) :: row b4 5 [ub sb] :: F1 :: dfP D0 (some []) :: row b8_ 35 [ptr p] :: row b6 4 [.bool false] :: []) (by simp [List.append_assoc])).to
    rcases stJ_cases q (n, s2) with hj | hj <;> rw [hj]
    · refine X.keep [(6, _), (11, _), (12, _)] ⟨rfl, rfl, rfl, trivial⟩ ?_
      refine X.blockNormal ?_
      refine X.next ?_
      refine C.seq ?_
      refine C.region ?_
      refine R.ev rfl (E.load1 rfl Try.underlying3 rfl (by first | exact hs.ldc | exact hs.ld rfl | exact hs.ld (by assumption) | exact by assumption | exact At.cellC (by assumption))) ?_
      refine R.ev rfl (E.move rfl) ?_
      refine R.ev rfl ((E.eql rfl rfl).isT (by omega)) ?_
      refine R.cstore1 hs rfl rfl Try.sz4 (by first | decide | simp [*]) (by first | rfl | exact OneC.one | exact KRow.oneC' (by assumption)) ?_
      intro w16_3 hs
      try simp only [List.set_cons_zero, List.set_cons_succ] at hs
      refine R.done ?_
      refine X.keep [(6, _)] ⟨rfl, trivial⟩ ?_
      refine X.next ?_
      refine C.ret ?_
      refine X.mark (D := D0) hs ?_
      intro wm0 hs
      refine X.resS rfl rfl Try.underlying4 rfl (by first | exact hs.ldc | exact hs.ld rfl) ?_
      exact ⟨rfl, (hs.less hk3.le).mod⟩
    · refine X.keep [(4, _), (5, _), (6, _), (7, _), (8, _), (11, _), (12, _), (33, _)] ⟨rfl, rfl, rfl, rfl, rfl, rfl, rfl, rfl, trivial⟩ ?_
      refine X.blockExit ?_
      refine X.next ?_
      refine C.seq ?_
      refine C.region ?_
      refine R.ev rfl (E.load1 rfl Try.underlying3 rfl (by first | exact hs.ldc | exact hs.ld rfl | exact hs.ld (by assumption) | exact by assumption | exact At.cellC (by assumption))) ?_
      refine R.ev rfl (E.move rfl) ?_
      refine R.ev rfl ((E.eql rfl rfl).isT (by omega)) ?_
      refine R.cstore1 hs rfl rfl Try.sz4 (by first | decide | simp [*]) (by first | rfl | exact OneC.one | exact KRow.oneC' (by assumption)) ?_
      intro w16_3 hs
      try simp only [List.set_cons_zero, List.set_cons_succ] at hs
      refine R.done ?_
      refine X.keep [(6, _)] ⟨rfl, trivial⟩ ?_
      refine X.next ?_
      refine C.ret ?_
      refine X.mark (D := D0) hs ?_
      intro wm0 hs
      refine X.resS rfl rfl Try.underlying4 rfl (by first | exact hs.ldc | exact hs.ld rfl) ?_
      exact ⟨rfl, (hs.less hk3.le).mod⟩

namespace historyStops
open Go.ChangeShapes Go.WideShapes Go.ChangeAt Go.RowKit
open Go.ChangeMaps (open_string shut_string)
set_option linter.unusedVariables false

theorem own : ownKnob Try.prog.godebug = none := by kernel_rfl
theorem laidOut : laidOutB Try.prog = true := by kernel_rfl
set_option maxRecDepth 100000 in
theorem lifted (os : Os) (started : os.Started) (H : Type) (enc : TypeId × Value → H) :
    ReturnsInHanded {} Try.checked os 6 .any (Rows.historyStopsSpec.pre6 enc Try.prog Try.f6 Rows.historyStopsRow.domain false) (Rows.historyStopsSpec.post enc Try.prog Try.f6 false true false false) := by
  refine returnsInHanded_of_change (C := Try.checked) own started (by kernel_rfl) Try.func6
    (ChangeSpec.witness6 (enc := enc) (C := Try.checked) false ⟨#[], #[.slice none 0 0, .int .u8 0, .agg #[.int .u8 0, .int .u8 0, .int .u8 0, .int .u8 0, .int .u8 0, .int .u8 0, .int .u8 0, .int .u8 0, .int .u8 0, .int .u8 0, .int .u8 0, .int .u8 0, .int .u8 0, .int .u8 0, .int .u8 0, .int .u8 0, .int .u8 0, .int .u8 0, .int .u8 0, .int .u8 0, .int .u8 0, .int .u8 0, .int .u8 0, .int .u8 0, .int .u8 0, .int .u8 0, .int .u8 0, .int .u8 0, .int .u8 0, .int .u8 0, .int .u8 0, .int .u8 0, .int .i64 0, .int .i64 0, .int .i64 0, .bool false]], []⟩ 8 (by kernel_rfl) (by kernel_rfl) (by kernel_rfl) (by kernel_rfl)) ?_
  intro W base args ds gs before hval0 hW hcnd _
  have hval : ∀ (j : Nat) t v, Try.f6.params[j]? = some t → args[j]? = some v → Value.okWide Try.prog W .any base t v := hval0
  have hW' := hW
  obtain ⟨p, q, hA0, hV, rfl, hfz, hnd⟩ := hW
  have hA : DataW.TrodAll enc Try.prog W 0 (fun _ => true) true Try.f6.params.toList args.toList ds p := hA0
  rw [Try.params6] at hA hval
  obtain ⟨v0, vs0, d0, ds0, p0, q0, hargs, rfl, rfl, h0, r0⟩ := trodAll_cons hA
  obtain ⟨v1, vs1, d1, ds1, p1, q1, rfl, rfl, rfl, h1, r1⟩ := trodAll_cons r0
  obtain ⟨v2, vs2, d2, ds2, p2, q2, rfl, rfl, rfl, h2, r2⟩ := trodAll_cons r1
  obtain ⟨rfl, rfl, rfl⟩ := trodAll_nil r2
  obtain rfl : args = #[v0, v1, v2] := by cases args; simp_all
  obtain ⟨rfl, rfl⟩ := trodVars_none hV
  have lt0 : ∀ x ∈ p0, x.block < W.heap.size := by obtain ⟨m, hm⟩ := h0; exact DataW.trod_lt m _ _ _ hm
  have a0 := Eng.argv_of (hval 0 34 v0 rfl rfl) h0
  have lt1 : ∀ x ∈ p1, x.block < W.heap.size := by obtain ⟨m, hm⟩ := h1; exact DataW.trod_lt m _ _ _ hm
  have a1 := Eng.argv_of (hval 1 5 v1 rfl rfl) h1
  have lt2 : ∀ x ∈ p2, x.block < W.heap.size := by obtain ⟨m, hm⟩ := h2; exact DataW.trod_lt m _ _ _ hm
  have a2 := Eng.argv_of (hval 2 24 v2 rfl rfl) h2
  clear hA0 hval0
  refine Calls.mono (stops_walk W v0 a0 v1 a1 v2 a2) fun e W' ⟨v, he, hv, hm⟩ => ?_
  subst he
  subst hv
  have bel := hm.below
  exact ⟨_, rfl, _, _, _, [], _, [], hW', trodAll_mk1 (shut_bool Try.underlying4 _), (trodAll_cons_mk (Below.trod laidOut (by kernel_rfl) (of_decide_eq_true (by kernel_rfl)) h0 bel lt0) (trodAll_cons_mk (Below.trod laidOut (by kernel_rfl) (of_decide_eq_true (by kernel_rfl)) h1 bel lt1) (trodAll_cons_mk (Below.trod laidOut (by kernel_rfl) (of_decide_eq_true (by kernel_rfl)) h2 bel lt2) trodAll_mk0))), rfl, bel.frame _, fun h => by cases h⟩

theorem over : Rows.historyStopsRow.holds Try.pinned (OpenSpec.ofChange Rows.historyStopsSpec) :=
  OpenClaim.holds_of_wide 6 Try.f6 rfl rfl rfl rfl rfl rfl rfl ⟨rfl, rfl, rfl, rfl, rfl⟩ rfl rfl rfl rfl rfl (by kernel_rfl) Try.func6 (by kernel_rfl)
    (of_decide_eq_true (by kernel_rfl)) (by unfold Func.isWrapper; first | (rw [if_pos (by decide +kernel)]; kernel_rfl) | (rw [if_neg (by decide +kernel)]; exact ⟨rfl, rfl⟩))
    (fun os started H enc _ => lifted os started H enc)
end historyStops
/-- the statement -/
theorem historyStops_holds : Rows.HistoryStopsSaid := historyStops.over
#print axioms historyStops_holds
end Go.Proofs.Ytobhhnfckhbeeaa
