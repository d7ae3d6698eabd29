/-
  package bulletinlaw36: build; the operations as they come in.
-/
import Derived.Test.YtajbclcpkgenbaaDoorWinQ
import Derived.Test.YtajbclcpkgenbaaDoorOpen
import Derived.Test.YtajbclcpkgenbaaDoorWinL
namespace Go.Proofs.YtajbclcpkgenbaaDoor
open Go.Eng Go.RowKit

theorem list34 {x : List Value} (h : x.length = 34) : ∃ a l b, x = a :: (l ++ [b]) ∧ l.length = 32 := by
  match x, h with
  | a :: r, h =>
    have hr : r.length = 33 := by simpa using h
    refine ⟨a, r.take 32, r[32], ?_, by simp [hr]⟩
    congr 1
    have := List.take_append_drop 32 r
    rw [List.drop_eq_getElem_cons (by omega), List.drop_eq_nil_of_le (by omega)] at this
    exact this.symm
theorem fit_op {w : World} (n : Nat) (x : List Value) (hx : x.length = 34) (h : Fit Tryd.prog w n 51 x) : ∃ y, x = encP y := by
  obtain ⟨n', _, hf⟩ := fit_struct h Tryd.underlying51
  obtain ⟨a, l, b, rfl, hl⟩ := list34 hx
  have f0 : Fit Tryd.prog w n' 5 (((a :: (l ++ [b])).drop 0).take (Tryd.prog.cellsOf 5)) := hf 0 _ rfl
  have f1 : Fit Tryd.prog w n' 37 (((a :: (l ++ [b])).drop 1).take (Tryd.prog.cellsOf 37)) := hf 1 _ rfl
  have f2 : Fit Tryd.prog w n' 3 (((a :: (l ++ [b])).drop 33).take (Tryd.prog.cellsOf 3)) := hf 2 _ rfl
  have c0 : Tryd.prog.cellsOf 5 = 1 := by kernel_rfl
  have c1 : Tryd.prog.cellsOf 37 = 32 := by kernel_rfl
  have c2 : Tryd.prog.cellsOf 3 = 1 := by kernel_rfl
  simp only [c0, c1, c2] at f0 f1 f2
  simp only [List.drop_zero, List.take_succ_cons, List.take_zero] at f0
  have e1 : ((a :: (l ++ [b])).drop 1).take 32 = l := by simp [← hl]
  have e2 : ((a :: (l ++ [b])).drop 33).take 1 = [b] := by simp [← hl]
  rw [e1] at f1
  rw [e2] at f2
  obtain ⟨k, hk⟩ := fit_u8 f0 Tryd.underlying5
  obtain ⟨i, hi, rfl⟩ := fit_bytes (m := 32) f1 Tryd.underlying37 Tryd.underlying5 c0 c1
  obtain ⟨m, hm, _⟩ := fit_int f2 Tryd.underlying3
  simp only [List.cons.injEq, and_true] at hk hm
  subst hk hm
  exact ⟨⟨k, ⟨i, hi⟩, m⟩, rfl⟩
/-- the argument of operations -/
theorem argv_ops {w : World} {v : Value} (h : ArgV Tryd.prog w 49 v) : ∃ ad cap ops, v = .slice ad ops.length cap ∧ ops.length ≤ cap ∧ cap ≤ maxLen ∧ KRow encP 34 (Kn.of w) v ops := by
  obtain ⟨ad, n, cap, L, rfl, h1, h2, h3⟩ := argv_sl (enc := encP) (sz := 34) h Tryd.underlying49 (by kernel_rfl) (by decide) fit_op
  have hl := h3.len
  subst hl
  exact ⟨ad, cap, L, rfl, h1, h2, ⟨ad, cap, rfl, KSl.of h3, h1⟩⟩
/-- the size that the statements take out of any number -/
def sz0 (n : Int) : Int := 1 + (IntKind.u64.wrap n) % 64
theorem sz0_is (n : Int) : isSz (sz0 n) = true := by
  have h1 := Int.emod_nonneg (IntKind.u64.wrap n) (show (64 : Int) ≠ 0 by decide)
  have h2 := Int.emod_lt_of_pos (IntKind.u64.wrap n) (show (0 : Int) < 64 by decide)
  have : 1 ≤ sz0 n ∧ sz0 n ≤ 64 := by unfold sz0; constructor <;> omega
  simp [isSz, this]
theorem u64_nonneg (n : Int) : 0 ≤ IntKind.u64.wrap n := by
  show 0 ≤ n % 18446744073709551616
  omega

variable {K : Kn} {Hs Rs : List Hl} {F : Hl} {w : World} {p : Nat} {sz : Int} {L : List Off}
theorem build_any {v : Value} {ops : List Op36} (n : Int) (hs : Sat K w Hs) [hr : KRow encP 34 K v ops] [HasChg K] (ho : ops.length ≤ 100) : Ret Tryd.prog 25 #[.int .i64 n, v] w fun r w' =>
    ∃ K' p v' F, r = .tuple #[ptr p, .agg #[.int .i64 (run (sz0 n, []) ops).1, v'], .bool true] ∧ KLe K K' ∧ Win p (run (sz0 n, []) ops).1 (run (sz0 n, []) ops).2 F ∧ KRow encO 34 K' v' (run (sz0 n, []) ops).2 ∧ Sat K' w' (F :: Hs) := by
  obtain ⟨ad, cap, rfl, hsl, hc⟩ := hr.ex
  have hz := sz0_is n
  have hz1 : 1 ≤ sz0 n ∧ sz0 n ≤ 64 := by simpa [isSz] using hz
  have hu0 := u64_nonneg n
  have hm := Int.emod_nonneg (IntKind.u64.wrap n) (show (64 : Int) ≠ 0 by decide)
  have hm2 := Int.emod_lt_of_pos (IntKind.u64.wrap n) (show (0 : Int) < 64 by decide)
  refine Ret.enter (n := 88) (args := [.int .i64 n, .slice ad ops.length cap]) Tryd.func25 rfl rfl ?_
  refine C.keep [(0, _), (1, _)] ⟨rfl, rfl, trivial⟩ ?_
  refine C.seq ?_
  refine C.region ?_
  refine R.ev rfl (E.assign rfl) ?_
  refine R.sallocA hs Tryd.zr58 rfl ?_
  intro b5 w5 hs
  refine R.ev rfl (E.assign rfl) ?_
  refine R.done ?_
  refine X.keep [(0, _), (1, _), (5, _)] ⟨rfl, rfl, rfl, trivial⟩ ?_
  refine X.next ?_
  refine C.seq ?_
  refine C.region ?_
  refine R.ev rfl (E.move rfl) ?_
  refine R.ev rfl (E.conv rfl Tryd.underlying3 Tryd.underlying29) ?_
  refine R.ev rfl (E.rem rfl rfl (by omega) (by omega)) ?_
  refine R.ev rfl ((E.conv rfl Tryd.underlying29 Tryd.underlying3).isI (c := IntKind.u64.wrap n % 64) (wrap_i64 (by omega) (by omega))) ?_
  refine R.ev rfl ((E.add rfl rfl (by omega) (by omega)).isI (c := sz0 n) rfl) ?_
  refine R.ev rfl (E.assign rfl) ?_
  refine R.done ?_
  refine X.keep [(0, _), (1, _), (5, _)] ⟨rfl, rfl, rfl, trivial⟩ ?_
  refine X.next ?_
  refine C.seq ?_
  refine C.region ?_
  refine R.ev rfl (E.move rfl) ?_
  refine R.call ⟨_, _, Tryd.func13, rfl, by kernel_rfl⟩ rfl rfl (new_any (sz0 n) hs) ?_
  rintro _ w2 (⟨h, _⟩ | ⟨_, p, F, rfl, hw, hs⟩)
  · rw [hz] at h; cases h
  refine R.ev rfl (E.move rfl) ?_
  refine R.ev rfl (E.extract rfl rfl) ?_
  refine R.ev rfl (E.extract rfl rfl) ?_
  refine R.ev rfl (E.assign rfl) ?_
  refine R.ev rfl (E.assign rfl) ?_
  refine R.done ?_
  refine X.keep [(0, _), (1, _), (5, _), (7, _), (8, _)] ⟨rfl, rfl, rfl, rfl, rfl, trivial⟩ ?_
  refine X.next ?_
  refine C.seq ?_
  refine C.region ?_
  refine R.ev rfl (E.move rfl) ?_
  refine R.ev rfl (E.buildG (r := [.int .i64 (sz0 n), .slice none 0 0]) rfl Tryd.underlying58 Tryd.zr58 Tryd.ql58 (by kernel_rfl) (by kernel_rfl) ⟨⟨_, rfl, by first | rfl | exact vsz _ | simp [Value.cells, *]⟩, trivial⟩ (by first | rfl | simp [setF, fieldsOf, Value.cells])) ?_
  refine R.sallocA hs Tryd.zr58 rfl ?_
  intro b9 w9 hs
  first | refine R.cstoreAll hs rfl rfl Tryd.sz58 (by first | rfl | assumption | exact encV_len _ | exact Enc.len _ | exact len_ub (by assumption) | simp [*]) (by first | rfl | assumption | exact encV_len _ | exact Enc.len _ | exact len_ub (by assumption) | simp [*]) (by first | assumption | exact OneL.all | exact Enc.one _ | exact ub_all _ | (repeat' (first | refine List.forall_mem_cons.2 ⟨?_, ?_⟩ | exact List.forall_mem_nil _ | rfl | exact OneC.one | exact KRow.oneC' (by assumption)))) ?_ | refine R.cstore hs rfl rfl Tryd.sz58 (by first | rfl | assumption | exact encV_len _ | exact Enc.len _ | exact len_ub (by assumption) | simp [*]) (by simp [*]) (by first | assumption | exact OneL.all | exact Enc.one _ | exact ub_all _ | (repeat' (first | refine List.forall_mem_cons.2 ⟨?_, ?_⟩ | exact List.forall_mem_nil _ | rfl | exact OneC.one | exact KRow.oneC' (by assumption)))) ?_
  intro w3_3 hs
  try simp only [List.set_cons_zero, List.set_cons_succ] at hs
  refine R.done ?_
  refine X.keep [(1, _), (5, _), (7, _), (8, _), (9, _)] ⟨rfl, rfl, rfl, rfl, rfl, trivial⟩ ?_
  refine X.next ?_
  refine C.seq ?_
  refine C.seq ?_
  refine C.region ?_
  refine R.ev rfl (E.move rfl) ?_
  refine R.ev rfl ((E.neq rfl rfl).isF (by simp)) ?_
  refine R.ev rfl (E.move rfl) ?_
  refine R.gyes rfl rfl ?_
  refine R.ev rfl (E.move rfl) ?_
  refine R.gyes rfl rfl ?_
  refine R.ev rfl (E.eqlNilF rfl rfl Tryd.underlying25) ?_
  refine R.ev rfl (E.pickF rfl rfl) ?_
  refine R.ev rfl (E.move rfl) ?_
  refine R.gyes rfl rfl ?_
  refine R.ev rfl (E.move rfl) ?_
  refine R.gyes rfl rfl ?_
  refine R.ev rfl (E.lenSl rfl Tryd.underlying49) ?_
  refine R.gyes rfl rfl ?_
  refine R.ev rfl ((E.gtr rfl rfl).isF (by omega)) ?_
  refine R.ev rfl (E.pickF rfl rfl) ?_
  refine R.done ?_
  refine X.keep [(1, _), (5, _), (7, _), (9, _), (40, _)] ⟨rfl, rfl, rfl, rfl, rfl, trivial⟩ ?_
  refine X.next ?_
  refine C.cfalse rfl ?_
  refine C.skip ?_
  refine X.next ?_
  refine C.seq ?_
  refine C.seq ?_
  refine C.region ?_
  refine R.ev rfl (E.assign rfl) ?_
  refine R.done ?_
  refine X.keep [(1, _), (5, _), (7, _), (9, _), (10, _)] ⟨rfl, rfl, rfl, rfl, rfl, trivial⟩ ?_
  refine X.next ?_
  refine C.block ?_
  refine C.loop (T := Nat × Kn × Value × Hl) [(1, _), (5, _), (7, _), (9, _)] (fun (k, _, _, _) => [(10, .int .i64 (k : Nat))]) (fun (k, K1, v, F') w' => k ≤ ops.length ∧ KLe K K1 ∧ Win p (run (sz0 n, []) (ops.take k)).1 (run (sz0 n, []) (ops.take k)).2 F' ∧ KRow encO 34 K1 v (run (sz0 n, []) (ops.take k)).2 ∧ Sat K1 w' (row b9 58 [.int .i64 (run (sz0 n, []) (ops.take k)).1, v] :: F' :: row b5 58 [.int .i64 0, .slice none 0 0] :: Hs)) (fun (k, _) => ops.length - k) ((0, K, .slice none 0 0, F)) ⟨rfl, rfl, rfl, rfl, rfl, trivial⟩ ⟨by omega, KLe.refl K, hw, KRow.nil, hs⟩ ?_
  rintro ⟨k, K1, v, F1⟩ w1 ⟨hk, hk1, hw1, hr1, hs⟩
  have hlen := run_len (ops.take k) (sz0 n, [])
  have hsn := fun o h => run_snoc (s := (sz0 n, [])) (ops := ops) (k := k) (o := o) h
  generalize hst : run (sz0 n, []) (ops.take k) = st at hw1 hr1 hs hlen hsn
  simp at hlen
  refine C.keep [(1, _), (5, _), (7, _), (9, _), (10, _)] ⟨rfl, rfl, rfl, rfl, rfl, trivial⟩ ?_
  refine C.seq ?_
  refine C.seq ?_
  refine C.region ?_
  refine R.ev rfl (E.move rfl) ?_
  refine R.ev rfl (E.move rfl) ?_
  refine R.ev rfl (E.lenSl rfl Tryd.underlying49) ?_
  refine R.ev rfl (E.lss rfl rfl) ?_
  refine R.done ?_
  refine X.keep [(1, _), (5, _), (7, _), (9, _), (10, _), (45, _)] ⟨rfl, rfl, rfl, rfl, rfl, rfl, trivial⟩ ?_
  refine X.next ?_
  refine C.cdec rfl (fun h45 => ?_) (fun h45 => ?_)
  · obtain ⟨y, bk_y, of_y, hy, my, ly, rfl, Ay⟩ := hs.el (i := k) (ad := ad) (n := ops.length) (c := cap) (by omega)
    have ay := Ay _ hs
    refine C.skip ?_
    refine X.next ?_
    refine C.seq ?_
    refine C.block ?_
    refine C.seq ?_
    refine C.region ?_
    refine R.ev rfl (E.move rfl) ?_
    refine R.ev rfl (E.move rfl) ?_
    refine R.ev rfl (E.move rfl) ?_
    refine R.ev rfl (E.indexAddr rfl rfl Tryd.underlying49 Tryd.sz51 rfl (by first | omega | decide)) ?_
    refine R.ev rfl (E.loadRowC rfl Tryd.underlying51 rfl Tryd.sz51 (by first | exact ⟨hs.ldA, by first | rfl | assumption | exact encV_len _ | exact Enc.len _ | exact len_ub (by assumption)⟩ | exact ⟨hs.ldP rfl, by first | rfl | assumption | exact encV_len _ | exact Enc.len _ | exact len_ub (by assumption)⟩ | exact ⟨hs.ldM rfl rfl, by first | rfl | assumption | exact encV_len _ | exact Enc.len _ | exact len_ub (by assumption)⟩ | exact ⟨hs.ldM (by assumption) (by first | rfl | assumption), by first | rfl | assumption | exact encV_len _ | exact Enc.len _ | exact len_ub (by assumption)⟩ | exact ⟨by assumption, by first | rfl | assumption | exact encV_len _ | exact Enc.len _ | exact len_ub (by assumption)⟩ | exact hs.ldp | exact At.partC (by assumption))) ?_
    refine R.call ⟨_, _, Tryd.func24, rfl, by kernel_rfl⟩ rfl rfl (perform_any y (hs.front (F := F1)) (by omega)) ?_
    rintro _ w9 ⟨K2, v91, v92, F2, rfl, hk2, hr91, hr92, hw2, hs1⟩
    have hs := hs.back (F := F1) hs1
    replace Ay := hs.elAt (b := bk_y) (off := of_y) (n := ops.length) (cap) hy
    have ay := Ay _ hs
    refine R.ev rfl (E.move rfl) ?_
    refine R.ev rfl (E.extract rfl rfl) ?_
    refine R.ev rfl (E.extract rfl rfl) ?_
    refine R.ev rfl (E.extract rfl rfl) ?_
    refine R.ev rfl (E.assign rfl) ?_
    refine R.ev rfl (E.assign rfl) ?_
    refine R.ev rfl (E.assign rfl) ?_
    refine R.done ?_
    refine X.keep [(1, _), (5, _), (7, _), (9, _), (10, _), (11, _), (12, _), (13, _)] ⟨rfl, rfl, rfl, rfl, rfl, rfl, rfl, rfl, trivial⟩ ?_
    refine X.next ?_
    refine C.seq ?_
    refine C.cut [(1, _), (5, _), (7, _), (9, _), (10, _), (11, _), (12, _), (13, _)] (fun ((b, _, _, v1, v2) : Nat × Kn × Value × Value × Value) => [(14, ptr b), (15, .int .i64 (pE st.1 st.2 y)), (16, v1), (17, v2)]) (fun (b, K3, v', v1, v2) w' => KLe K2 K3 ∧ KRow encO 34 K3 v' (pL st.1 st.2 y) ∧ KRow encR 33 K3 v1 (pR st.2 y) ∧ KRow encV 32 K3 v2 (pD st.2 y) ∧ Sat K3 w' (row b 58 [.int .i64 (pS st.1 y), v'] :: row b9 58 [.int .i64 st.1, v] :: F2 :: row b5 58 [.int .i64 0, .slice none 0 0] :: Hs)) ⟨rfl, rfl, rfl, rfl, rfl, rfl, rfl, rfl, trivial⟩ ?_ ?_
    · refine C.drawn (SatS hs) ([0, 4], [1, 2, 3, 6, 7, 8, 9, 10, 13, 14, 15]) (by kernel_rfl) ?_
      have hs := hs.drew
      refine D.evP 1 rfl (by kernel_rfl) rfl (fun _ => hs.to) (fun _ => E.move rfl) ?_
      refine D.evP 2 rfl (by kernel_rfl) rfl (fun _ => hs.to) (fun _ => E.move rfl) ?_
      refine D.evP 3 rfl (by kernel_rfl) rfl (fun _ => hs.to) (fun _ => E.indexAddr rfl rfl Tryd.underlying49 Tryd.sz51 rfl (by first | omega | decide)) ?_
      refine D.ev 0 rfl (by kernel_rfl) rfl hs.to (fun _ hS => E.loadRowC rfl Tryd.underlying58 rfl Tryd.sz58 (by first | exact ⟨hS.ldA, by first | rfl | assumption | exact encV_len _ | exact Enc.len _ | exact len_ub (by assumption)⟩ | exact ⟨hS.ldP rfl, by first | rfl | assumption | exact encV_len _ | exact Enc.len _ | exact len_ub (by assumption)⟩ | exact ⟨hS.ldM rfl rfl, by first | rfl | assumption | exact encV_len _ | exact Enc.len _ | exact len_ub (by assumption)⟩ | exact ⟨hS.ldM (by assumption) (by first | rfl | assumption), by first | rfl | assumption | exact encV_len _ | exact Enc.len _ | exact len_ub (by assumption)⟩ | exact ⟨by assumption, by first | rfl | assumption | exact encV_len _ | exact Enc.len _ | exact len_ub (by assumption)⟩ | exact ⟨(by assumption : ∀ w', Sat _ w' _ → At w' _ _ _) _ hS, by first | rfl | assumption | exact encV_len _ | exact Enc.len _ | exact len_ub (by assumption)⟩ | exact hS.ldp | exact At.partC (by assumption) | exact At.partC ((by assumption : ∀ w', Sat _ w' _ → At w' _ _ _) _ hS))) ?_
      refine D.ev 4 rfl (by kernel_rfl) rfl hs.to (fun _ hS => E.loadRowC rfl Tryd.underlying51 rfl Tryd.sz51 (by first | exact ⟨hS.ldA, by first | rfl | assumption | exact encV_len _ | exact Enc.len _ | exact len_ub (by assumption)⟩ | exact ⟨hS.ldP rfl, by first | rfl | assumption | exact encV_len _ | exact Enc.len _ | exact len_ub (by assumption)⟩ | exact ⟨hS.ldM rfl rfl, by first | rfl | assumption | exact encV_len _ | exact Enc.len _ | exact len_ub (by assumption)⟩ | exact ⟨hS.ldM (by assumption) (by first | rfl | assumption), by first | rfl | assumption | exact encV_len _ | exact Enc.len _ | exact len_ub (by assumption)⟩ | exact ⟨by assumption, by first | rfl | assumption | exact encV_len _ | exact Enc.len _ | exact len_ub (by assumption)⟩ | exact ⟨(by assumption : ∀ w', Sat _ w' _ → At w' _ _ _) _ hS, by first | rfl | assumption | exact encV_len _ | exact Enc.len _ | exact len_ub (by assumption)⟩ | exact hS.ldp | exact At.partC (by assumption) | exact At.partC ((by assumption : ∀ w', Sat _ w' _ → At w' _ _ _) _ hS))) ?_
      refine D.act2 5 11 rfl rfl (by kernel_rfl) ?_ ?_
      · refine R.call ⟨_, _, Tryd.func29, rfl, by kernel_rfl⟩ rfl rfl (do_any (sz := st.1) (L := st.2) y hs (by omega)) ?_
        rintro _ w10 ⟨K3, v', v1, v2, rfl, hk3, hr3, hr1', hr2', hs⟩
        refine D.backT (by kernel_rfl) ?_
        refine D.evP 6 rfl (by kernel_rfl) rfl (np (by kernel_rfl)) (fun _ => E.move rfl) ?_
        refine D.evP 7 rfl (by kernel_rfl) rfl (np (by kernel_rfl)) (fun _ => E.extract rfl rfl) ?_
        refine D.evP 8 rfl (by kernel_rfl) rfl (np (by kernel_rfl)) (fun _ => E.extract rfl rfl) ?_
        refine D.evP 9 rfl (by kernel_rfl) rfl (np (by kernel_rfl)) (fun _ => E.extract rfl rfl) ?_
        refine D.evP 10 rfl (by kernel_rfl) rfl (np (by kernel_rfl)) (fun _ => E.extract rfl rfl) ?_
        refine D.act 11 rfl (by kernel_rfl) ?_
        refine R.sallocA hs Tryd.zr58 rfl ?_
        intro b14 w14 hs
        refine D.backT (by kernel_rfl) ?_
        refine D.act 12 rfl (by kernel_rfl) ?_
        first | refine R.cstoreAll hs rfl rfl Tryd.sz58 (by first | rfl | assumption | exact encV_len _ | exact Enc.len _ | exact len_ub (by assumption) | simp [*]) (by first | rfl | assumption | exact encV_len _ | exact Enc.len _ | exact len_ub (by assumption) | simp [*]) (by first | assumption | exact OneL.all | exact Enc.one _ | exact ub_all _ | (repeat' (first | refine List.forall_mem_cons.2 ⟨?_, ?_⟩ | exact List.forall_mem_nil _ | rfl | exact OneC.one | exact KRow.oneC' (by assumption)))) ?_ | refine R.cstore hs rfl rfl Tryd.sz58 (by first | rfl | assumption | exact encV_len _ | exact Enc.len _ | exact len_ub (by assumption) | simp [*]) (by simp [*]) (by first | assumption | exact OneL.all | exact Enc.one _ | exact ub_all _ | (repeat' (first | refine List.forall_mem_cons.2 ⟨?_, ?_⟩ | exact List.forall_mem_nil _ | rfl | exact OneC.one | exact KRow.oneC' (by assumption)))) ?_
        intro w10_12 hs
        try simp only [List.set_cons_zero, List.set_cons_succ] at hs
        refine D.backT (by kernel_rfl) ?_
        refine D.evP 13 rfl (by kernel_rfl) rfl (np (by kernel_rfl)) (fun _ => E.assign rfl) ?_
        refine D.evP 14 rfl (by kernel_rfl) rfl (np (by kernel_rfl)) (fun _ => E.assign rfl) ?_
        refine D.evP 15 rfl (by kernel_rfl) rfl (np (by kernel_rfl)) (fun _ => E.assign rfl) ?_
        refine D.done rfl (by kernel_rfl) ?_
        refine X.keep [(1, _), (5, _), (7, _), (9, _), (10, _), (11, _), (12, _), (13, _), (14, _), (15, _), (16, _), (17, _)] ⟨rfl, rfl, rfl, rfl, rfl, rfl, rfl, rfl, rfl, rfl, rfl, rfl, trivial⟩ ?_
        refine X.cut ((b14, K3, v', v1, v2)) ⟨lkV rfl ?_, lkV rfl ?_, lkV rfl ?_, lkV rfl ?_, rfl, rfl, rfl, rfl, rfl, rfl, rfl, rfl, trivial⟩ ?_
        · rfl
        · rfl
        · rfl
        · rfl
        · exact ⟨hk3, hr3, hr1', hr2', hs.to⟩
      · refine R.sallocA hs Tryd.zr58 rfl ?_
        intro b14 w14 hs
        refine D.back hs.to ?_
        refine D.act 5 rfl (by kernel_rfl) ?_
        refine R.call ⟨_, _, Tryd.func29, rfl, by kernel_rfl⟩ rfl rfl (do_any (sz := st.1) (L := st.2) y hs (by omega)) ?_
        rintro _ w10 ⟨K3, v', v1, v2, rfl, hk3, hr3, hr1', hr2', hs⟩
        refine D.backT (by kernel_rfl) ?_
        refine D.evP 6 rfl (by kernel_rfl) rfl (np (by kernel_rfl)) (fun _ => E.move rfl) ?_
        refine D.evP 7 rfl (by kernel_rfl) rfl (np (by kernel_rfl)) (fun _ => E.extract rfl rfl) ?_
        refine D.evP 8 rfl (by kernel_rfl) rfl (np (by kernel_rfl)) (fun _ => E.extract rfl rfl) ?_
        refine D.evP 9 rfl (by kernel_rfl) rfl (np (by kernel_rfl)) (fun _ => E.extract rfl rfl) ?_
        refine D.evP 10 rfl (by kernel_rfl) rfl (np (by kernel_rfl)) (fun _ => E.extract rfl rfl) ?_
        refine D.act 12 rfl (by kernel_rfl) ?_
        first | refine R.cstoreAll hs rfl rfl Tryd.sz58 (by first | rfl | assumption | exact encV_len _ | exact Enc.len _ | exact len_ub (by assumption) | simp [*]) (by first | rfl | assumption | exact encV_len _ | exact Enc.len _ | exact len_ub (by assumption) | simp [*]) (by first | assumption | exact OneL.all | exact Enc.one _ | exact ub_all _ | (repeat' (first | refine List.forall_mem_cons.2 ⟨?_, ?_⟩ | exact List.forall_mem_nil _ | rfl | exact OneC.one | exact KRow.oneC' (by assumption)))) ?_ | refine R.cstore hs rfl rfl Tryd.sz58 (by first | rfl | assumption | exact encV_len _ | exact Enc.len _ | exact len_ub (by assumption) | simp [*]) (by simp [*]) (by first | assumption | exact OneL.all | exact Enc.one _ | exact ub_all _ | (repeat' (first | refine List.forall_mem_cons.2 ⟨?_, ?_⟩ | exact List.forall_mem_nil _ | rfl | exact OneC.one | exact KRow.oneC' (by assumption)))) ?_
        intro w10_12 hs
        try simp only [List.set_cons_zero, List.set_cons_succ] at hs
        refine D.backT (by kernel_rfl) ?_
        refine D.evP 13 rfl (by kernel_rfl) rfl (np (by kernel_rfl)) (fun _ => E.assign rfl) ?_
        refine D.evP 14 rfl (by kernel_rfl) rfl (np (by kernel_rfl)) (fun _ => E.assign rfl) ?_
        refine D.evP 15 rfl (by kernel_rfl) rfl (np (by kernel_rfl)) (fun _ => E.assign rfl) ?_
        refine D.done rfl (by kernel_rfl) ?_
        refine X.keep [(1, _), (5, _), (7, _), (9, _), (10, _), (11, _), (12, _), (13, _), (14, _), (15, _), (16, _), (17, _)] ⟨rfl, rfl, rfl, rfl, rfl, rfl, rfl, rfl, rfl, rfl, rfl, rfl, trivial⟩ ?_
        refine X.cut ((b14, K3, v', v1, v2)) ⟨lkV rfl ?_, lkV rfl ?_, lkV rfl ?_, lkV rfl ?_, rfl, rfl, rfl, rfl, rfl, rfl, rfl, rfl, trivial⟩ ?_
        · rfl
        · rfl
        · rfl
        · rfl
        · exact ⟨hk3, hr3, hr1', hr2', hs.to⟩
    · rintro ⟨b14, K3, v', v1, v2⟩ w3 ⟨hk3, hr3, hr1', hr2', hs⟩
      refine X.keep [(1, _), (5, _), (7, _), (9, _), (10, _), (11, _), (12, _), (13, _), (14, _), (15, _), (16, _), (17, _)] ⟨rfl, rfl, rfl, rfl, rfl, rfl, rfl, rfl, rfl, rfl, rfl, rfl, trivial⟩ ?_
      refine X.next ?_
      refine C.seq ?_
      refine C.seq ?_
      refine C.region ?_
      refine R.ev rfl (E.move rfl) ?_
      refine R.ev rfl (E.move rfl) ?_
      refine R.ev rfl ((E.neq rfl rfl).isF (by simp)) ?_
      refine R.ev rfl (E.move rfl) ?_
      refine R.gyes rfl rfl ?_
      refine R.ev rfl (E.move rfl) ?_
      refine R.gyes rfl rfl ?_
      refine R.ev rfl (E.move rfl) ?_
      refine R.gyes rfl rfl ?_
      refine R.call ⟨_, _, Tryd.func19, rfl, by kernel_rfl⟩ rfl rfl (results_any (L := pR st.2 y) (M := pR st.2 y) hs (by have := pR_len st.2 y; omega)) ?_
      rintro _ w11 ⟨h11, hs⟩
      rw [decide_eq_true rfl] at h11
      subst h11
      refine R.gyes rfl rfl ?_
      refine R.ev rfl (E.notT rfl) ?_
      refine R.ev rfl (E.pickF rfl rfl) ?_
      refine R.ev rfl (E.move rfl) ?_
      refine R.gyes rfl rfl ?_
      refine R.ev rfl (E.move rfl) ?_
      refine R.gyes rfl rfl ?_
      refine R.ev rfl (E.move rfl) ?_
      refine R.gyes rfl rfl ?_
      refine R.call ⟨_, _, Tryd.func27, rfl, by kernel_rfl⟩ rfl rfl (ids_any (L := pD st.2 y) (M := pD st.2 y) hs (by have := pD_len st.2 y; omega)) ?_
      rintro _ w12 ⟨h12, hs⟩
      rw [decide_eq_true rfl] at h12
      subst h12
      refine R.gyes rfl rfl ?_
      refine R.ev rfl (E.notT rfl) ?_
      refine R.ev rfl (E.pickF rfl rfl) ?_
      refine R.done ?_
      refine X.keep [(1, _), (5, _), (7, _), (9, _), (10, _), (14, _), (83, _)] ⟨rfl, rfl, rfl, rfl, rfl, rfl, rfl, trivial⟩ ?_
      refine X.next ?_
      refine C.cfalse rfl ?_
      refine C.skip ?_
      refine X.next ?_
      refine C.region ?_
      refine R.ev rfl (E.loadRowC rfl Tryd.underlying58 rfl Tryd.sz58 (by first | exact ⟨hs.ldA, by first | rfl | assumption | exact encV_len _ | exact Enc.len _ | exact len_ub (by assumption)⟩ | exact ⟨hs.ldP rfl, by first | rfl | assumption | exact encV_len _ | exact Enc.len _ | exact len_ub (by assumption)⟩ | exact ⟨hs.ldM rfl rfl, by first | rfl | assumption | exact encV_len _ | exact Enc.len _ | exact len_ub (by assumption)⟩ | exact ⟨hs.ldM (by assumption) (by first | rfl | assumption), by first | rfl | assumption | exact encV_len _ | exact Enc.len _ | exact len_ub (by assumption)⟩ | exact ⟨by assumption, by first | rfl | assumption | exact encV_len _ | exact Enc.len _ | exact len_ub (by assumption)⟩ | exact hs.ldp | exact At.partC (by assumption))) ?_
      first | refine R.cstoreAll hs rfl rfl Tryd.sz58 (by first | rfl | assumption | exact encV_len _ | exact Enc.len _ | exact len_ub (by assumption) | simp [*]) (by first | rfl | assumption | exact encV_len _ | exact Enc.len _ | exact len_ub (by assumption) | simp [*]) (by first | assumption | exact OneL.all | exact Enc.one _ | exact ub_all _ | (repeat' (first | refine List.forall_mem_cons.2 ⟨?_, ?_⟩ | exact List.forall_mem_nil _ | rfl | exact OneC.one | exact KRow.oneC' (by assumption)))) ?_ | refine R.cstore hs rfl rfl Tryd.sz58 (by first | rfl | assumption | exact encV_len _ | exact Enc.len _ | exact len_ub (by assumption) | simp [*]) (by simp [*]) (by first | assumption | exact OneL.all | exact Enc.one _ | exact ub_all _ | (repeat' (first | refine List.forall_mem_cons.2 ⟨?_, ?_⟩ | exact List.forall_mem_nil _ | rfl | exact OneC.one | exact KRow.oneC' (by assumption)))) ?_
      intro w13_1 hs
      try simp only [List.set_cons_zero, List.set_cons_succ] at hs
      refine R.done ?_
      refine X.keep [(1, _), (5, _), (7, _), (9, _), (10, _)] ⟨rfl, rfl, rfl, rfl, rfl, trivial⟩ ?_
      refine X.blockNormal ?_
      refine X.next ?_
      refine C.region ?_
      refine R.ev rfl (E.move rfl) ?_
      refine R.ev rfl (E.add rfl rfl (by omega) (by omega)) ?_
      refine R.ev rfl (E.assign rfl) ?_
      refine R.done ?_
      refine X.keep [(1, _), (5, _), (7, _), (9, _), (10, _)] ⟨rfl, rfl, rfl, rfl, rfl, trivial⟩ ?_
      have e := hsn y hy
      exact X.again (k + 1, K3, v', F2) ⟨rfl, rfl, rfl, rfl, rfl, trivial⟩ ⟨by omega, (hk1.trans hk2).trans hk3, by rw [e]; exact hw2, by rw [e]; exact hr3, by rw [e]; exact hs.to⟩ (by show _ - _ < _ - _; omega)
  · refine C.exit ?_
    refine X.thenExit ?_
    refine X.loopExit ?_
    refine X.blockExit ?_
    refine X.next ?_
    refine C.seq ?_
    refine C.drawn (SatS hs) ([1], [0, 2, 4]) (by kernel_rfl) ?_
    have hs := hs.drew
    refine D.evP 0 rfl (by kernel_rfl) rfl (fun _ => hs.to) (fun _ => E.move rfl) ?_
    refine D.evP 2 rfl (by kernel_rfl) rfl (fun _ => hs.to) (fun _ => E.assign rfl) ?_
    refine D.ev 1 rfl (by kernel_rfl) rfl hs.to (fun _ hS => E.loadRowC rfl Tryd.underlying58 rfl Tryd.sz58 (by first | exact ⟨hS.ldA, by first | rfl | assumption | exact encV_len _ | exact Enc.len _ | exact len_ub (by assumption)⟩ | exact ⟨hS.ldP rfl, by first | rfl | assumption | exact encV_len _ | exact Enc.len _ | exact len_ub (by assumption)⟩ | exact ⟨hS.ldM rfl rfl, by first | rfl | assumption | exact encV_len _ | exact Enc.len _ | exact len_ub (by assumption)⟩ | exact ⟨hS.ldM (by assumption) (by first | rfl | assumption), by first | rfl | assumption | exact encV_len _ | exact Enc.len _ | exact len_ub (by assumption)⟩ | exact ⟨by assumption, by first | rfl | assumption | exact encV_len _ | exact Enc.len _ | exact len_ub (by assumption)⟩ | exact ⟨(by assumption : ∀ w', Sat _ w' _ → At w' _ _ _) _ hS, by first | rfl | assumption | exact encV_len _ | exact Enc.len _ | exact len_ub (by assumption)⟩ | exact hS.ldp | exact At.partC (by assumption) | exact At.partC ((by assumption : ∀ w', Sat _ w' _ → At w' _ _ _) _ hS))) ?_
    refine D.act 3 rfl (by kernel_rfl) ?_
    first | refine R.cstoreAll hs rfl rfl Tryd.sz58 (by first | rfl | assumption | exact encV_len _ | exact Enc.len _ | exact len_ub (by assumption) | simp [*]) (by first | rfl | assumption | exact encV_len _ | exact Enc.len _ | exact len_ub (by assumption) | simp [*]) (by first | assumption | exact OneL.all | exact Enc.one _ | exact ub_all _ | (repeat' (first | refine List.forall_mem_cons.2 ⟨?_, ?_⟩ | exact List.forall_mem_nil _ | rfl | exact OneC.one | exact KRow.oneC' (by assumption)))) ?_ | refine R.cstore hs rfl rfl Tryd.sz58 (by first | rfl | assumption | exact encV_len _ | exact Enc.len _ | exact len_ub (by assumption) | simp [*]) (by simp [*]) (by first | assumption | exact OneL.all | exact Enc.one _ | exact ub_all _ | (repeat' (first | refine List.forall_mem_cons.2 ⟨?_, ?_⟩ | exact List.forall_mem_nil _ | rfl | exact OneC.one | exact KRow.oneC' (by assumption)))) ?_
    intro w14_3 hs
    try simp only [List.set_cons_zero, List.set_cons_succ] at hs
    refine D.backT (by kernel_rfl) ?_
    refine D.evP 4 rfl (by kernel_rfl) rfl (np (by kernel_rfl)) (fun _ => E.assign rfl) ?_
    refine D.done rfl (by kernel_rfl) ?_
    refine X.keep [(4, _), (5, _), (6, _)] ⟨rfl, rfl, rfl, trivial⟩ ?_
    refine X.next ?_
    refine C.ret ?_
    refine X.resTCT rfl rfl rfl Tryd.underlying58 rfl Tryd.sz58 (by first | exact ⟨hs.ldA, by first | rfl | assumption | exact encV_len _ | exact Enc.len _ | exact len_ub (by assumption)⟩ | exact ⟨hs.ldP rfl, by first | rfl | assumption | exact encV_len _ | exact Enc.len _ | exact len_ub (by assumption)⟩ | exact ⟨by assumption, by first | rfl | assumption | exact encV_len _ | exact Enc.len _ | exact len_ub (by assumption)⟩) rfl ?_
    have e : k = ops.length := by omega
    rw [e, List.take_length] at hst
    rw [hst]
    exact ⟨K1, p, v, F1, rfl, hk1, hw1, hr1, hs.to⟩
end Go.Proofs.YtajbclcpkgenbaaDoor
