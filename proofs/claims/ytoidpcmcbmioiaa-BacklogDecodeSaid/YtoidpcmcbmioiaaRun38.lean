/-
  package bulletinlaw38: run and view.
-/
import Derived.Test.YtoidpcmcbmioiaaDo38
namespace Go.Proofs.Ytoidpcmcbmioiaa
open Go.Eng Go.RowKit

variable {K : Kn} {Hs Rs : List Hl} {F : Hl} {w : World} {p : Nat} {s : Bk} {v : Value}
theorem BInv.op {s : Bk} (h : BInv s) (o : Op38) : BInv (opS s o) := by
  unfold opS
  split
  · exact h.off _
  · split
    · exact h.ans _
    · split
      · exact h.lat _ _
      · split
        · exact h.add _ _
        · split
          · exact h.rem _
          · split
            · exact h.drop
            · split
              · exact (scan_vw h o.ids o.now).2.1
              · exact h
theorem TOk.up {k : Nat} {s : Bk} (h : TOk k s) : TOk (k + 1) s := fun e he => by have := h e he; omega
theorem TOk.rem {k : Nat} {s : Bk} (h : TOk k s) (a : Vec 32) : TOk k (remS s a) := by
  unfold remS; split
  · exact fun e he => h e ((remL_sub a s.L).subset he)
  · exact h
theorem TOk.op {k : Nat} {s : Bk} (hI : BInv s) (h : TOk k s) (o : Op38) : TOk (k + 1) (opS s o) := by
  have hu := h.up
  unfold opS
  split
  · unfold offS; split
    · exact hu
    · exact hu
  · split
    · unfold ansS; split
      · exact (h.rem _).up
      · exact hu
    · split
      · unfold latS; split
        · intro e he
          rcases List.mem_append.1 he with he | he
          · exact (h.rem _).up e he
          · simp at he; subst he
            have ht : 0 ≤ triesOf s o.id ∧ triesOf s o.id ≤ k := by
              unfold triesOf
              split
              · rename_i e he; exact h e (List.mem_of_find?_eq_some he)
              · omega
            simp only; omega
        · exact hu
      · split
        · unfold addS; split
          · exact hu
          · split
            · intro e he
              rcases List.mem_append.1 he with he | he
              · exact hu e he
              · simp at he; subst he; simp only; omega
            · exact hu
        · split
          · exact (h.rem _).up
          · split
            · exact hu
            · split
              · intro e he
                rcases (scan_vw hI o.ids o.now).2.2.2 e he with h1 | h1
                · exact hu e h1
                · omega
              · exact hu
def runS (s : Bk) (ops : List Op38) : Bk := ops.foldl opS s
theorem runS_snoc {s : Bk} {ops : List Op38} {k : Nat} {o : Op38} (h : ops[k]? = some o) : runS s (ops.take (k + 1)) = opS (runS s (ops.take k)) o := by
  rw [take_snoc h, runS, List.foldl_append]; rfl
theorem BInv.run {s : Bk} (h : BInv s) (ops : List Op38) : BInv (runS s ops) := by
  unfold runS
  induction ops generalizing s with
  | nil => exact h
  | cons o l ih => exact ih (h.op o)
theorem TOk.run {s : Bk} (hI : BInv s) {k : Nat} (h : TOk k s) (ops : List Op38) : TOk (k + ops.length) (runS s ops) := by
  unfold runS
  induction ops generalizing s k with
  | nil => exact h
  | cons o l ih =>
    have := ih (hI.op o) (h.op hI o)
    rw [List.foldl_cons, List.length_cons]
    rw [show k + (l.length + 1) = k + 1 + l.length by omega]; exact this
abbrev bk0 (c wt : Int) : Bk := ⟨c, wt, false, [], []⟩
theorem small_op {ops : List Op38} (h : smallB ops = true) : ops.length ≤ 40 ∧ ∀ o ∈ ops, o.n ≤ 20 := by
  simp only [smallB, Bool.and_eq_true, List.all_eq_true, decide_eq_true_eq] at h
  exact ⟨h.2, h.1⟩
theorem run_any {ad : Option Addr} {cap : Nat} {ops : List Op38} (c wt : Int) (hs : Sat K w Hs) [hr : KRow encP 36 K (.slice ad ops.length cap) ops] (hok : ∀ o ∈ ops, OpOk K o) (hsm : smallB ops = true) (hnew : newOk c wt = true) :
    Ret Try.prog 28 #[.int .i64 c, .int .i64 wt, .slice ad ops.length cap] w fun r w' => ∃ K' p v' F', r = .tuple #[ptr p, (vw (runS (bk0 c wt) ops)).v v', .bool true] ∧ KLe K K' ∧ KRow encRE 35 K' v' (vw (runS (bk0 c wt) ops)).L ∧ BkL p (runS (bk0 c wt) ops) F' ∧ Sat K' w' (F' :: Hs) := by
  obtain ⟨hl40, hn20⟩ := small_op hsm
  have hI0 : BInv (bk0 c wt) := BInv.start hnew
  have hT0 : TOk 0 (bk0 c wt) := fun e he => by cases he
  refine Ret.enter (n := 60) (args := [.int .i64 c, .int .i64 wt, .slice ad ops.length cap]) Try.func28 rfl rfl ?_
  refine C.keep [(0, _), (1, _), (2, _)] ⟨rfl, rfl, rfl, trivial⟩ ?_
  refine C.seq ?_
  refine C.region ?_
  refine R.ev rfl (E.assign rfl) ?_
  refine R.sallocA hs Try.zr52 rfl ?_
  intro b7 w7 hs
  refine R.ev rfl (E.assign rfl) ?_
  refine R.done ?_
  refine X.keep [(0, _), (1, _), (2, _), (7, _)] ⟨rfl, rfl, rfl, rfl, trivial⟩ ?_
  refine X.next ?_
  refine C.seq ?_
  refine C.region ?_
  refine R.ev rfl (E.move rfl) ?_
  refine R.ev rfl (E.move rfl) ?_
  refine R.call ⟨_, _, Try.func14, rfl, by kernel_rfl⟩ rfl rfl (new_any c wt hs) ?_
  rintro _ w1 (⟨h, _⟩ | ⟨_, p, F, rfl, hw, hs⟩)
  · rw [hnew] at h; cases h
  refine R.ev rfl (E.move rfl) ?_
  refine R.ev rfl (E.extract rfl rfl) ?_
  refine R.ev rfl (E.extract rfl rfl) ?_
  refine R.ev rfl (E.assign rfl) ?_
  refine R.ev rfl (E.assign rfl) ?_
  refine R.done ?_
  refine X.keep [(0, _), (1, _), (2, _), (6, _), (7, _), (9, _)] ⟨rfl, rfl, rfl, rfl, rfl, rfl, trivial⟩ ?_
  refine X.next ?_
  refine C.seq ?_
  refine C.region ?_
  refine R.ev rfl (E.move rfl) ?_
  refine R.ev rfl (E.move rfl) ?_
  refine R.call ⟨_, _, Try.func53, rfl, by kernel_rfl⟩ rfl rfl (rnew_any c wt hs) ?_
  rw [rnewE, hnew]
  rintro _ w2 ⟨K0, v0, rfl, hk0, hr0, hs⟩
  have o0 : OneC v0 := ⟨KRow.oneC' hr0⟩
  simp only [if_true] at hr0 ⊢
  refine R.ev rfl (E.move rfl) ?_
  refine R.ev rfl (E.extract rfl rfl) ?_
  refine R.ev rfl (E.extract rfl rfl) ?_
  first | refine R.cstoreAll hs rfl rfl Try.sz52 (by first | rfl | assumption | exact encV_len _ | exact Enc.len _ | exact len_ub (by assumption) | simp [*]) (by first | rfl | assumption | exact encV_len _ | exact Enc.len _ | exact len_ub (by assumption) | simp [*]) (by first | assumption | exact OneL.all | exact Enc.one _ | exact ub_all _ | (repeat' (first | refine List.forall_mem_cons.2 ⟨?_, ?_⟩ | exact List.forall_mem_nil _ | rfl | exact OneC.one | exact KRow.oneC' (by assumption)))) ?_ | refine R.cstore hs rfl rfl Try.sz52 (by first | rfl | assumption | exact encV_len _ | exact Enc.len _ | exact len_ub (by assumption) | simp [*]) (by simp [*]) (by first | assumption | exact OneL.all | exact Enc.one _ | exact ub_all _ | (repeat' (first | refine List.forall_mem_cons.2 ⟨?_, ?_⟩ | exact List.forall_mem_nil _ | rfl | exact OneC.one | exact KRow.oneC' (by assumption)))) ?_
  intro w2_6 hs
  try simp only [List.set_cons_zero, List.set_cons_succ] at hs
  refine R.ev rfl (E.assign rfl) ?_
  refine R.done ?_
  refine X.keep [(2, _), (6, _), (7, _), (9, _), (10, _)] ⟨rfl, rfl, rfl, rfl, rfl, trivial⟩ ?_
  refine X.next ?_
  refine C.seq ?_
  refine C.seq ?_
  refine C.region ?_
  refine R.ev rfl (E.move rfl) ?_
  refine R.ev rfl (E.move rfl) ?_
  refine R.ev rfl ((E.neq rfl rfl).isF (by simp)) ?_
  refine R.ev rfl (E.move rfl) ?_
  refine R.gyes rfl rfl ?_
  refine R.ev rfl (E.move rfl) ?_
  refine R.gyes rfl rfl ?_
  refine R.ev rfl (E.eqlNilF rfl rfl Try.underlying25) ?_
  refine R.gyes rfl rfl ?_
  refine R.ev rfl (E.move rfl) ?_
  refine R.gyes rfl rfl ?_
  refine R.ev rfl ((E.neq rfl rfl).isF (by simp)) ?_
  refine R.gyes rfl rfl ?_
  refine R.ev rfl ((E.neqB rfl rfl Try.underlying4).isB (c := false) rfl) ?_
  refine R.ev rfl (E.pickF rfl rfl) ?_
  refine R.done ?_
  refine X.keep [(2, _), (6, _), (7, _), (33, _)] ⟨rfl, rfl, rfl, rfl, trivial⟩ ?_
  refine X.next ?_
  refine C.cfalse rfl ?_
  refine C.skip ?_
  refine X.next ?_
  refine C.seq ?_
  refine C.seq ?_
  refine C.region ?_
  refine R.ev rfl (E.assign rfl) ?_
  refine R.done ?_
  refine X.keep [(2, _), (6, _), (7, _), (11, _)] ⟨rfl, rfl, rfl, rfl, trivial⟩ ?_
  refine X.next ?_
  refine C.block ?_
  refine C.loop (T := Nat × Kn × Value × Hl) [(2, _), (7, _)] (fun (k, _, _, _) => [(6, ptr p), (11, .int .i64 (k : Nat))]) (fun (k, K1, v1, F1) w' => k ≤ ops.length ∧ KLe K K1 ∧ KRow encRE 35 K1 v1 (vw (runS (bk0 c wt) (ops.take k))).L ∧ BkL p (runS (bk0 c wt) (ops.take k)) F1 ∧ Sat K1 w' (row b7 52 [.int .i64 (vw (runS (bk0 c wt) (ops.take k))).cap, .int .i64 (vw (runS (bk0 c wt) (ops.take k))).wait, .bool (vw (runS (bk0 c wt) (ops.take k))).inc, v1] :: F1 :: Hs)) (fun (k, _) => ops.length - k) ((0, K0, v0, F)) ⟨rfl, rfl, rfl, rfl, trivial⟩ ⟨by omega, hk0, hr0, hw, (hs.to : Sat K0 _ (row b7 52 [.int .i64 c, .int .i64 wt, .bool false, v0] :: F :: Hs))⟩ ?_
  rintro ⟨k, K1, v1, F1⟩ w3 ⟨hk, hk1, hr1, hw1, hs⟩
  have o1 : OneC v1 := ⟨KRow.oneC' hr1⟩
  have hI1 := hI0.run (ops.take k)
  have hT1 := hT0.run hI0 (ops.take k)
  have hsn := fun o h => runS_snoc (s := bk0 c wt) (ops := ops) (k := k) (o := o) h
  rw [List.length_take, Nat.zero_add] at hT1
  generalize hst : runS (bk0 c wt) (ops.take k) = st at hr1 hw1 hs hsn hI1 hT1
  refine C.keep [(2, _), (6, _), (7, _), (11, _)] ⟨rfl, rfl, rfl, rfl, trivial⟩ ?_
  refine C.seq ?_
  refine C.seq ?_
  refine C.region ?_
  refine R.ev rfl (E.move rfl) ?_
  refine R.ev rfl (E.move rfl) ?_
  refine R.ev rfl (E.lenSl rfl Try.underlying22) ?_
  refine R.ev rfl (E.lss rfl rfl) ?_
  refine R.ev rfl (E.move rfl) ?_
  refine R.split 39 rfl (fun h39 => ?_) (fun h39 => ?_)
  · refine R.gyes rfl rfl ?_
    refine R.ev rfl (E.move rfl) ?_
    refine R.gyes rfl rfl ?_
    refine R.ev rfl (E.neNilT rfl rfl Try.underlying25) ?_
    refine R.ev rfl (E.pickT rfl rfl) ?_
    refine R.done ?_
    refine X.keep [(2, _), (6, _), (7, _), (11, _), (42, _)] ⟨rfl, rfl, rfl, rfl, rfl, trivial⟩ ?_
    refine X.next ?_
    refine C.ctrue rfl ?_
    refine C.skip ?_
    refine X.next ?_
    refine C.seq ?_
    refine C.block ?_
    refine C.seq ?_
    refine C.drawn (SatS hs) ([1, 5], [0, 2, 3, 4, 7, 8, 9, 11]) (by kernel_rfl) ?_
    have hs := hs.drew
    have hkl : k < ops.length := by have := of_decide_eq_true h39; omega
    obtain ⟨y, bk_y, of_y, hy, my, ly, rfl, Ay⟩ := hs.el (i := k) (ad := ad) (n := ops.length) (c := cap) (by omega)
    have ay := Ay _ hs
    refine D.evP 0 rfl (by kernel_rfl) rfl (fun _ => hs.to) (fun _ => E.move rfl) ?_
    refine D.evP 2 rfl (by kernel_rfl) rfl (fun _ => hs.to) (fun _ => E.move rfl) ?_
    refine D.evP 3 rfl (by kernel_rfl) rfl (fun _ => hs.to) (fun _ => E.move rfl) ?_
    refine D.evP 4 rfl (by kernel_rfl) rfl (fun _ => hs.to) (fun _ => E.indexAddr rfl rfl Try.underlying22 Try.sz33 rfl (by first | omega | decide)) ?_
    refine D.ev 1 rfl (by kernel_rfl) rfl hs.to (fun _ hS => E.loadRowC rfl Try.underlying52 rfl Try.sz52 (by first | exact ⟨hS.ldA, by first | rfl | assumption | exact encV_len _ | exact Enc.len _ | exact len_ub (by assumption)⟩ | exact ⟨hS.ldP rfl, by first | rfl | assumption | exact encV_len _ | exact Enc.len _ | exact len_ub (by assumption)⟩ | exact ⟨hS.ldM rfl rfl, by first | rfl | assumption | exact encV_len _ | exact Enc.len _ | exact len_ub (by assumption)⟩ | exact ⟨hS.ldM (by assumption) (by first | rfl | assumption), by first | rfl | assumption | exact encV_len _ | exact Enc.len _ | exact len_ub (by assumption)⟩ | exact ⟨by assumption, by first | rfl | assumption | exact encV_len _ | exact Enc.len _ | exact len_ub (by assumption)⟩ | exact ⟨(by assumption : ∀ w', Sat _ w' _ → At w' _ _ _) _ hS, by first | rfl | assumption | exact encV_len _ | exact Enc.len _ | exact len_ub (by assumption)⟩ | exact hS.ldp | exact At.partC (by assumption) | exact At.partC ((by assumption : ∀ w', Sat _ w' _ → At w' _ _ _) _ hS))) ?_
    refine D.ev 5 rfl (by kernel_rfl) rfl hs.to (fun _ hS => E.loadRow (cs := encP y) rfl Try.underlying33 rfl Try.sz33 (Ay _ hS) ly) ?_
    refine D.act 6 rfl (by kernel_rfl) ?_
    refine R.call ⟨_, _, Try.func38, rfl, by kernel_rfl⟩ rfl rfl (do_any (s := st) (v := v1) (k := k) y hI1 (fun e he => by have := hT1 e he; omega) (by omega) (hs.front (F := F1)) ((hok y my).mono hk1) (hn20 y my)) ?_
    rintro _ w8 ⟨K2, v2, F2, rfl, hk2, hr2, hw2, hs1⟩
    have hs := hs.back (F := F1) hs1
    have o2 : OneC v2 := ⟨KRow.oneC' hr2⟩
    refine D.backT (by kernel_rfl) ?_
    refine D.evP 7 rfl (by kernel_rfl) rfl (np (by kernel_rfl)) (fun _ => E.move rfl) ?_
    refine D.evP 8 rfl (by kernel_rfl) rfl (np (by kernel_rfl)) (fun _ => E.extract rfl rfl) ?_
    refine D.evP 9 rfl (by kernel_rfl) rfl (np (by kernel_rfl)) (fun _ => E.extract rfl rfl) ?_
    refine D.act 10 rfl (by kernel_rfl) ?_
    first | refine R.cstoreAll hs rfl rfl Try.sz52 (by first | rfl | assumption | exact encV_len _ | exact Enc.len _ | exact len_ub (by assumption) | simp [*]) (by first | rfl | assumption | exact encV_len _ | exact Enc.len _ | exact len_ub (by assumption) | simp [*]) (by first | assumption | exact OneL.all | exact Enc.one _ | exact ub_all _ | (repeat' (first | refine List.forall_mem_cons.2 ⟨?_, ?_⟩ | exact List.forall_mem_nil _ | rfl | exact OneC.one | exact KRow.oneC' (by assumption)))) ?_ | refine R.cstore hs rfl rfl Try.sz52 (by first | rfl | assumption | exact encV_len _ | exact Enc.len _ | exact len_ub (by assumption) | simp [*]) (by simp [*]) (by first | assumption | exact OneL.all | exact Enc.one _ | exact ub_all _ | (repeat' (first | refine List.forall_mem_cons.2 ⟨?_, ?_⟩ | exact List.forall_mem_nil _ | rfl | exact OneC.one | exact KRow.oneC' (by assumption)))) ?_
    intro w8_10 hs
    try simp only [List.set_cons_zero, List.set_cons_succ] at hs
    refine D.backT (by kernel_rfl) ?_
    refine D.evP 11 rfl (by kernel_rfl) rfl (np (by kernel_rfl)) (fun _ => E.assign rfl) ?_
    refine D.done rfl (by kernel_rfl) ?_
    refine X.keep [(2, _), (6, _), (7, _), (8, _), (11, _)] ⟨rfl, rfl, rfl, rfl, rfl, trivial⟩ ?_
    refine X.next ?_
    refine C.seq ?_
    refine C.region ?_
    refine R.ev rfl (E.move rfl) ?_
    refine R.ev rfl (E.notT rfl) ?_
    refine R.done ?_
    refine X.keep [(2, _), (6, _), (7, _), (11, _), (56, _)] ⟨rfl, rfl, rfl, rfl, rfl, trivial⟩ ?_
    refine X.next ?_
    refine C.cfalse rfl ?_
    refine C.skip ?_
    refine X.blockNormal ?_
    refine X.next ?_
    refine C.region ?_
    refine R.ev rfl (E.move rfl) ?_
    refine R.ev rfl (E.add rfl rfl (by omega) (by omega)) ?_
    refine R.ev rfl (E.assign rfl) ?_
    refine R.done ?_
    refine X.keep [(2, _), (6, _), (7, _), (11, _)] ⟨rfl, rfl, rfl, rfl, trivial⟩ ?_
    have e := hsn y hy
    exact X.again (k + 1, K2, v2, F2) ⟨rfl, rfl, rfl, rfl, trivial⟩ ⟨by omega, hk1.trans hk2, by rw [e]; exact hr2, by rw [e]; exact hw2, by rw [e]; exact hs.to⟩ (by show _ - _ < _ - _; omega)
  · refine R.gskip rfl rfl rfl ?_
    refine R.gskip rfl rfl rfl ?_
    refine R.ev rfl (E.pickF rfl rfl) ?_
    refine R.done ?_
    refine X.keep [(2, _), (6, _), (7, _), (11, _), (42, _)] ⟨rfl, rfl, rfl, rfl, rfl, trivial⟩ ?_
    refine X.next ?_
    refine C.cfalse rfl ?_
    refine C.exit ?_
    refine X.thenExit ?_
    refine X.loopExit ?_
    refine X.blockExit ?_
    refine X.next ?_
    refine C.seq ?_
    refine C.drawn (SatS hs) ([1], [0, 2, 4]) (by kernel_rfl) ?_
    have hs := hs.drew
    refine D.evP 0 rfl (by kernel_rfl) rfl (fun _ => hs.to) (fun _ => E.move rfl) ?_
    refine D.evP 2 rfl (by kernel_rfl) rfl (fun _ => hs.to) (fun _ => E.assign rfl) ?_
    refine D.ev 1 rfl (by kernel_rfl) rfl hs.to (fun _ hS => E.loadRowC rfl Try.underlying52 rfl Try.sz52 (by first | exact ⟨hS.ldA, by first | rfl | assumption | exact encV_len _ | exact Enc.len _ | exact len_ub (by assumption)⟩ | exact ⟨hS.ldP rfl, by first | rfl | assumption | exact encV_len _ | exact Enc.len _ | exact len_ub (by assumption)⟩ | exact ⟨hS.ldM rfl rfl, by first | rfl | assumption | exact encV_len _ | exact Enc.len _ | exact len_ub (by assumption)⟩ | exact ⟨hS.ldM (by assumption) (by first | rfl | assumption), by first | rfl | assumption | exact encV_len _ | exact Enc.len _ | exact len_ub (by assumption)⟩ | exact ⟨by assumption, by first | rfl | assumption | exact encV_len _ | exact Enc.len _ | exact len_ub (by assumption)⟩ | exact ⟨(by assumption : ∀ w', Sat _ w' _ → At w' _ _ _) _ hS, by first | rfl | assumption | exact encV_len _ | exact Enc.len _ | exact len_ub (by assumption)⟩ | exact hS.ldp | exact At.partC (by assumption) | exact At.partC ((by assumption : ∀ w', Sat _ w' _ → At w' _ _ _) _ hS))) ?_
    refine D.act 3 rfl (by kernel_rfl) ?_
    first | refine R.cstoreAll hs rfl rfl Try.sz52 (by first | rfl | assumption | exact encV_len _ | exact Enc.len _ | exact len_ub (by assumption) | simp [*]) (by first | rfl | assumption | exact encV_len _ | exact Enc.len _ | exact len_ub (by assumption) | simp [*]) (by first | assumption | exact OneL.all | exact Enc.one _ | exact ub_all _ | (repeat' (first | refine List.forall_mem_cons.2 ⟨?_, ?_⟩ | exact List.forall_mem_nil _ | rfl | exact OneC.one | exact KRow.oneC' (by assumption)))) ?_ | refine R.cstore hs rfl rfl Try.sz52 (by first | rfl | assumption | exact encV_len _ | exact Enc.len _ | exact len_ub (by assumption) | simp [*]) (by simp [*]) (by first | assumption | exact OneL.all | exact Enc.one _ | exact ub_all _ | (repeat' (first | refine List.forall_mem_cons.2 ⟨?_, ?_⟩ | exact List.forall_mem_nil _ | rfl | exact OneC.one | exact KRow.oneC' (by assumption)))) ?_
    intro w11_3 hs
    try simp only [List.set_cons_zero, List.set_cons_succ] at hs
    refine D.backT (by kernel_rfl) ?_
    refine D.evP 4 rfl (by kernel_rfl) rfl (np (by kernel_rfl)) (fun _ => E.assign rfl) ?_
    refine D.done rfl (by kernel_rfl) ?_
    refine X.keep [(6, _), (7, _), (8, _)] ⟨rfl, rfl, rfl, trivial⟩ ?_
    refine X.next ?_
    refine C.ret ?_
    refine X.resTCT rfl rfl rfl Try.underlying52 rfl Try.sz52 (by first | exact ⟨hs.ldA, by first | rfl | assumption | exact encV_len _ | exact Enc.len _ | exact len_ub (by assumption)⟩ | exact ⟨hs.ldP rfl, by first | rfl | assumption | exact encV_len _ | exact Enc.len _ | exact len_ub (by assumption)⟩ | exact ⟨by assumption, by first | rfl | assumption | exact encV_len _ | exact Enc.len _ | exact len_ub (by assumption)⟩) rfl ?_
    have hke : k = ops.length := of_len hk h39
    rw [hke, List.take_length] at hst
    rw [hst]
    exact ⟨K1, p, v1, F1, rfl, hk1, hr1, hw1, hs.to⟩
theorem run_bad {ad : Option Addr} {cap : Nat} {ops : List Op38} (c wt : Int) (hs : Sat K w Hs) (hnew : newOk c wt = false) :
    Ret Try.prog 28 #[.int .i64 c, .int .i64 wt, .slice ad ops.length cap] w fun r w' => ∃ K' v', r = .tuple #[.pointer none, RB.v ⟨0, 0, false, []⟩ v', .bool true] ∧ KLe K K' ∧ KRow encRE 35 K' v' ([] : List RE) ∧ Sat K' w' Hs := by
  refine Ret.enter (n := 60) (args := [.int .i64 c, .int .i64 wt, .slice ad ops.length cap]) Try.func28 rfl rfl ?_
  refine C.keep [(0, _), (1, _), (2, _)] ⟨rfl, rfl, rfl, trivial⟩ ?_
  refine C.seq ?_
  refine C.region ?_
  refine R.ev rfl (E.assign rfl) ?_
  refine R.sallocA hs Try.zr52 rfl ?_
  intro b7 w7 hs
  refine R.ev rfl (E.assign rfl) ?_
  refine R.done ?_
  refine X.keep [(0, _), (1, _), (2, _), (7, _)] ⟨rfl, rfl, rfl, rfl, trivial⟩ ?_
  refine X.next ?_
  refine C.seq ?_
  refine C.region ?_
  refine R.ev rfl (E.move rfl) ?_
  refine R.ev rfl (E.move rfl) ?_
  refine R.call ⟨_, _, Try.func14, rfl, by kernel_rfl⟩ rfl rfl (new_any c wt hs) ?_
  rintro _ w1 (⟨_, rfl, hs⟩ | ⟨h, _⟩)
  case inr => rw [hnew] at h; cases h
  refine R.ev rfl (E.move rfl) ?_
  refine R.ev rfl (E.extract rfl rfl) ?_
  refine R.ev rfl (E.extract rfl rfl) ?_
  refine R.ev rfl (E.assign rfl) ?_
  refine R.ev rfl (E.assign rfl) ?_
  refine R.done ?_
  refine X.keep [(0, _), (1, _), (2, _), (6, _), (7, _), (9, _)] ⟨rfl, rfl, rfl, rfl, rfl, rfl, trivial⟩ ?_
  refine X.next ?_
  refine C.seq ?_
  refine C.region ?_
  refine R.ev rfl (E.move rfl) ?_
  refine R.ev rfl (E.move rfl) ?_
  refine R.call ⟨_, _, Try.func53, rfl, by kernel_rfl⟩ rfl rfl (rnew_any c wt hs) ?_
  rw [rnewE, hnew]
  rintro _ w2 ⟨K0, v0, rfl, hk0, hr0, hs⟩
  have o0 : OneC v0 := ⟨KRow.oneC' hr0⟩
  simp only [Bool.false_eq_true, if_false] at hr0 ⊢
  refine R.ev rfl (E.move rfl) ?_
  refine R.ev rfl (E.extract rfl rfl) ?_
  refine R.ev rfl (E.extract rfl rfl) ?_
  first | refine R.cstoreAll hs rfl rfl Try.sz52 (by first | rfl | assumption | exact encV_len _ | exact Enc.len _ | exact len_ub (by assumption) | simp [*]) (by first | rfl | assumption | exact encV_len _ | exact Enc.len _ | exact len_ub (by assumption) | simp [*]) (by first | assumption | exact OneL.all | exact Enc.one _ | exact ub_all _ | (repeat' (first | refine List.forall_mem_cons.2 ⟨?_, ?_⟩ | exact List.forall_mem_nil _ | rfl | exact OneC.one | exact KRow.oneC' (by assumption)))) ?_ | refine R.cstore hs rfl rfl Try.sz52 (by first | rfl | assumption | exact encV_len _ | exact Enc.len _ | exact len_ub (by assumption) | simp [*]) (by simp [*]) (by first | assumption | exact OneL.all | exact Enc.one _ | exact ub_all _ | (repeat' (first | refine List.forall_mem_cons.2 ⟨?_, ?_⟩ | exact List.forall_mem_nil _ | rfl | exact OneC.one | exact KRow.oneC' (by assumption)))) ?_
  intro w2_6 hs
  try simp only [List.set_cons_zero, List.set_cons_succ] at hs
  refine R.ev rfl (E.assign rfl) ?_
  refine R.done ?_
  refine X.keep [(2, _), (6, _), (7, _), (9, _), (10, _)] ⟨rfl, rfl, rfl, rfl, rfl, trivial⟩ ?_
  refine X.next ?_
  refine C.seq ?_
  refine C.seq ?_
  refine C.region ?_
  refine R.ev rfl (E.move rfl) ?_
  refine R.ev rfl (E.move rfl) ?_
  refine R.ev rfl ((E.neq rfl rfl).isF (by simp)) ?_
  refine R.ev rfl (E.move rfl) ?_
  refine R.gyes rfl rfl ?_
  refine R.ev rfl (E.move rfl) ?_
  refine R.gyes rfl rfl ?_
  refine R.ev rfl (E.eqlNilT rfl rfl Try.underlying25) ?_
  refine R.gyes rfl rfl ?_
  refine R.ev rfl (E.move rfl) ?_
  refine R.gyes rfl rfl ?_
  refine R.ev rfl ((E.neq rfl rfl).isT (by simp)) ?_
  refine R.gyes rfl rfl ?_
  refine R.ev rfl ((E.neqB rfl rfl Try.underlying4).isB (c := false) rfl) ?_
  refine R.ev rfl (E.pickF rfl rfl) ?_
  refine R.done ?_
  refine X.keep [(2, _), (6, _), (7, _), (33, _)] ⟨rfl, rfl, rfl, rfl, trivial⟩ ?_
  refine X.next ?_
  refine C.cfalse rfl ?_
  refine C.skip ?_
  refine X.next ?_
  refine C.seq ?_
  refine C.seq ?_
  refine C.region ?_
  refine R.ev rfl (E.assign rfl) ?_
  refine R.done ?_
  refine X.keep [(2, _), (6, _), (7, _), (11, _)] ⟨rfl, rfl, rfl, rfl, trivial⟩ ?_
  refine X.next ?_
  refine C.block ?_
  refine C.loop (T := Unit) [(2, _), (7, _)] (fun _ => [(6, .pointer none), (11, .int .i64 0)]) (fun _ w' => Sat K0 w' (row b7 52 [.int .i64 0, .int .i64 0, .bool false, v0] :: Hs)) (fun _ => 0) (()) ⟨rfl, rfl, rfl, rfl, trivial⟩ hs ?_
  rintro _ w3 hs
  refine C.keep [(2, _), (6, _), (7, _), (11, _)] ⟨rfl, rfl, rfl, rfl, trivial⟩ ?_
  refine C.seq ?_
  refine C.seq ?_
  refine C.region ?_
  refine R.ev rfl (E.move rfl) ?_
  refine R.ev rfl (E.move rfl) ?_
  refine R.ev rfl (E.lenSl rfl Try.underlying22) ?_
  refine R.ev rfl (E.lss rfl rfl) ?_
  refine R.ev rfl (E.move rfl) ?_
  refine R.split 39 rfl (fun h39 => ?_) (fun h39 => ?_)
  · refine R.gyes rfl rfl ?_
    refine R.ev rfl (E.move rfl) ?_
    refine R.gyes rfl rfl ?_
    refine R.ev rfl (E.neNilF rfl rfl Try.underlying25) ?_
    refine R.ev rfl (E.pickT rfl rfl) ?_
    refine R.done ?_
    refine X.keep [(2, _), (6, _), (7, _), (11, _), (42, _)] ⟨rfl, rfl, rfl, rfl, rfl, trivial⟩ ?_
    refine X.next ?_
    refine C.cfalse rfl ?_
    refine C.exit ?_
    refine X.thenExit ?_
    refine X.loopExit ?_
    refine X.blockExit ?_
    refine X.next ?_
    refine C.seq ?_
    refine C.drawn (SatS hs) ([1], [0, 2, 4]) (by kernel_rfl) ?_
    have hs := hs.drew
    refine D.evP 0 rfl (by kernel_rfl) rfl (fun _ => hs.to) (fun _ => E.move rfl) ?_
    refine D.evP 2 rfl (by kernel_rfl) rfl (fun _ => hs.to) (fun _ => E.assign rfl) ?_
    refine D.ev 1 rfl (by kernel_rfl) rfl hs.to (fun _ hS => E.loadRowC rfl Try.underlying52 rfl Try.sz52 (by first | exact ⟨hS.ldA, by first | rfl | assumption | exact encV_len _ | exact Enc.len _ | exact len_ub (by assumption)⟩ | exact ⟨hS.ldP rfl, by first | rfl | assumption | exact encV_len _ | exact Enc.len _ | exact len_ub (by assumption)⟩ | exact ⟨hS.ldM rfl rfl, by first | rfl | assumption | exact encV_len _ | exact Enc.len _ | exact len_ub (by assumption)⟩ | exact ⟨hS.ldM (by assumption) (by first | rfl | assumption), by first | rfl | assumption | exact encV_len _ | exact Enc.len _ | exact len_ub (by assumption)⟩ | exact ⟨by assumption, by first | rfl | assumption | exact encV_len _ | exact Enc.len _ | exact len_ub (by assumption)⟩ | exact ⟨(by assumption : ∀ w', Sat _ w' _ → At w' _ _ _) _ hS, by first | rfl | assumption | exact encV_len _ | exact Enc.len _ | exact len_ub (by assumption)⟩ | exact hS.ldp | exact At.partC (by assumption) | exact At.partC ((by assumption : ∀ w', Sat _ w' _ → At w' _ _ _) _ hS))) ?_
    refine D.act 3 rfl (by kernel_rfl) ?_
    first | refine R.cstoreAll hs rfl rfl Try.sz52 (by first | rfl | assumption | exact encV_len _ | exact Enc.len _ | exact len_ub (by assumption) | simp [*]) (by first | rfl | assumption | exact encV_len _ | exact Enc.len _ | exact len_ub (by assumption) | simp [*]) (by first | assumption | exact OneL.all | exact Enc.one _ | exact ub_all _ | (repeat' (first | refine List.forall_mem_cons.2 ⟨?_, ?_⟩ | exact List.forall_mem_nil _ | rfl | exact OneC.one | exact KRow.oneC' (by assumption)))) ?_ | refine R.cstore hs rfl rfl Try.sz52 (by first | rfl | assumption | exact encV_len _ | exact Enc.len _ | exact len_ub (by assumption) | simp [*]) (by simp [*]) (by first | assumption | exact OneL.all | exact Enc.one _ | exact ub_all _ | (repeat' (first | refine List.forall_mem_cons.2 ⟨?_, ?_⟩ | exact List.forall_mem_nil _ | rfl | exact OneC.one | exact KRow.oneC' (by assumption)))) ?_
    intro w11_3 hs
    try simp only [List.set_cons_zero, List.set_cons_succ] at hs
    refine D.backT (by kernel_rfl) ?_
    refine D.evP 4 rfl (by kernel_rfl) rfl (np (by kernel_rfl)) (fun _ => E.assign rfl) ?_
    refine D.done rfl (by kernel_rfl) ?_
    refine X.keep [(6, _), (7, _), (8, _)] ⟨rfl, rfl, rfl, trivial⟩ ?_
    refine X.next ?_
    refine C.ret ?_
    refine X.resTCT rfl rfl rfl Try.underlying52 rfl Try.sz52 (by first | exact ⟨hs.ldA, by first | rfl | assumption | exact encV_len _ | exact Enc.len _ | exact len_ub (by assumption)⟩ | exact ⟨hs.ldP rfl, by first | rfl | assumption | exact encV_len _ | exact Enc.len _ | exact len_ub (by assumption)⟩ | exact ⟨by assumption, by first | rfl | assumption | exact encV_len _ | exact Enc.len _ | exact len_ub (by assumption)⟩) rfl ?_
    exact ⟨K0, v0, rfl, hk0, hr0, hs.to⟩
  · refine R.gskip rfl rfl rfl ?_
    refine R.gskip rfl rfl rfl ?_
    refine R.ev rfl (E.pickF rfl rfl) ?_
    refine R.done ?_
    refine X.keep [(2, _), (6, _), (7, _), (11, _), (42, _)] ⟨rfl, rfl, rfl, rfl, rfl, trivial⟩ ?_
    refine X.next ?_
    refine C.cfalse rfl ?_
    refine C.exit ?_
    refine X.thenExit ?_
    refine X.loopExit ?_
    refine X.blockExit ?_
    refine X.next ?_
    refine C.seq ?_
    refine C.drawn (SatS hs) ([1], [0, 2, 4]) (by kernel_rfl) ?_
    have hs := hs.drew
    refine D.evP 0 rfl (by kernel_rfl) rfl (fun _ => hs.to) (fun _ => E.move rfl) ?_
    refine D.evP 2 rfl (by kernel_rfl) rfl (fun _ => hs.to) (fun _ => E.assign rfl) ?_
    refine D.ev 1 rfl (by kernel_rfl) rfl hs.to (fun _ hS => E.loadRowC rfl Try.underlying52 rfl Try.sz52 (by first | exact ⟨hS.ldA, by first | rfl | assumption | exact encV_len _ | exact Enc.len _ | exact len_ub (by assumption)⟩ | exact ⟨hS.ldP rfl, by first | rfl | assumption | exact encV_len _ | exact Enc.len _ | exact len_ub (by assumption)⟩ | exact ⟨hS.ldM rfl rfl, by first | rfl | assumption | exact encV_len _ | exact Enc.len _ | exact len_ub (by assumption)⟩ | exact ⟨hS.ldM (by assumption) (by first | rfl | assumption), by first | rfl | assumption | exact encV_len _ | exact Enc.len _ | exact len_ub (by assumption)⟩ | exact ⟨by assumption, by first | rfl | assumption | exact encV_len _ | exact Enc.len _ | exact len_ub (by assumption)⟩ | exact ⟨(by assumption : ∀ w', Sat _ w' _ → At w' _ _ _) _ hS, by first | rfl | assumption | exact encV_len _ | exact Enc.len _ | exact len_ub (by assumption)⟩ | exact hS.ldp | exact At.partC (by assumption) | exact At.partC ((by assumption : ∀ w', Sat _ w' _ → At w' _ _ _) _ hS))) ?_
    refine D.act 3 rfl (by kernel_rfl) ?_
    first | refine R.cstoreAll hs rfl rfl Try.sz52 (by first | rfl | assumption | exact encV_len _ | exact Enc.len _ | exact len_ub (by assumption) | simp [*]) (by first | rfl | assumption | exact encV_len _ | exact Enc.len _ | exact len_ub (by assumption) | simp [*]) (by first | assumption | exact OneL.all | exact Enc.one _ | exact ub_all _ | (repeat' (first | refine List.forall_mem_cons.2 ⟨?_, ?_⟩ | exact List.forall_mem_nil _ | rfl | exact OneC.one | exact KRow.oneC' (by assumption)))) ?_ | refine R.cstore hs rfl rfl Try.sz52 (by first | rfl | assumption | exact encV_len _ | exact Enc.len _ | exact len_ub (by assumption) | simp [*]) (by simp [*]) (by first | assumption | exact OneL.all | exact Enc.one _ | exact ub_all _ | (repeat' (first | refine List.forall_mem_cons.2 ⟨?_, ?_⟩ | exact List.forall_mem_nil _ | rfl | exact OneC.one | exact KRow.oneC' (by assumption)))) ?_
    intro w11_3 hs
    try simp only [List.set_cons_zero, List.set_cons_succ] at hs
    refine D.backT (by kernel_rfl) ?_
    refine D.evP 4 rfl (by kernel_rfl) rfl (np (by kernel_rfl)) (fun _ => E.assign rfl) ?_
    refine D.done rfl (by kernel_rfl) ?_
    refine X.keep [(6, _), (7, _), (8, _)] ⟨rfl, rfl, rfl, trivial⟩ ?_
    refine X.next ?_
    refine C.ret ?_
    refine X.resTCT rfl rfl rfl Try.underlying52 rfl Try.sz52 (by first | exact ⟨hs.ldA, by first | rfl | assumption | exact encV_len _ | exact Enc.len _ | exact len_ub (by assumption)⟩ | exact ⟨hs.ldP rfl, by first | rfl | assumption | exact encV_len _ | exact Enc.len _ | exact len_ub (by assumption)⟩ | exact ⟨by assumption, by first | rfl | assumption | exact encV_len _ | exact Enc.len _ | exact len_ub (by assumption)⟩) rfl ?_
    exact ⟨K0, v0, rfl, hk0, hr0, hs.to⟩
/-! view -/
theorem outs_take {s : Bk} (k : Nat) : (((vw s).L.take k).filter RE.out).map RE.id = outL s (s.L.take k) := by
  unfold outL
  rw [show (vw s).L = s.L.map (vwE s) from rfl, ← List.map_take, List.filter_map, List.map_map]
  rfl
theorem view_any (hI : BInv s) (hs : Sat K w Hs) [hw : BkIn p s Hs] [hr : KRow encRE 35 K v (vw s).L] : Ret Try.prog 29 #[ptr p, (vw s).v v] w fun r w' => r = .bool true ∧ Sat K w' Hs := by
  have hlen : s.L.length ≤ 4096 := by have := hI.le; have := hI.cp; omega
  have hvl := vw_len s
  obtain ⟨ad, cap, rfl, _, hc⟩ := hr.ex
  rw [hvl] at hr hc ⊢
  refine Ret.enter (n := 92) (args := [ptr p, (vw s).v (.slice ad s.L.length cap)]) Try.func29 rfl rfl ?_
  refine C.keep [(0, _), (1, _)] ⟨rfl, rfl, trivial⟩ ?_
  refine C.seq ?_
  refine C.region ?_
  refine R.sboxA hs rfl rfl ?_
  intro b3 w3 hs
  refine R.ev rfl (E.assign rfl) ?_
  refine R.done ?_
  refine X.keep [(0, _), (3, _)] ⟨rfl, rfl, trivial⟩ ?_
  refine X.next ?_
  refine C.seq ?_
  refine C.region ?_
  refine R.ev rfl (E.move rfl) ?_
  refine R.call ⟨_, _, Try.func33, rfl, by kernel_rfl⟩ rfl rfl (all_any hs (by omega)) ?_
  rintro v10 w10 ⟨F10, r10, hs⟩
  obtain ⟨ad5, cap5, rfl, _⟩ := r10.val
  refine R.ev rfl (E.assign rfl) ?_
  refine R.done ?_
  refine X.keep [(0, _), (3, _), (5, _)] ⟨rfl, rfl, rfl, trivial⟩ ?_
  refine X.next ?_
  refine C.seq ?_
  refine C.seq ?_
  refine C.drawn (SatS hs) ([3, 10, 18], [0, 1, 2, 4, 5, 6, 7, 9, 11, 12, 13, 14, 15, 17, 19, 20]) (by kernel_rfl) ?_
  have hs := hs.drew
  refine D.evP 0 rfl (by kernel_rfl) rfl (fun _ => hs.to) (fun _ => E.move rfl) ?_
  refine D.evP 1 rfl (by kernel_rfl) rfl (fun _ => hs.to) (fun _ => E.lenSl rfl Try.underlying63) ?_
  first | refine D.evP 2 rfl (by kernel_rfl) rfl (fun _ => hs.to) (fun _ => E.fieldAddr0 3 rfl Try.underlying52 rfl Try.sz50 rfl) ?_ | refine D.evP 2 rfl (by kernel_rfl) rfl (fun _ => hs.to) (fun _ => E.fieldAddrN 3 rfl Try.underlying52 rfl Try.sz50 rfl) ?_
  refine D.ev 3 rfl (by kernel_rfl) rfl hs.to (fun _ hS => E.load1 rfl Try.underlying50 rfl (by first | exact hS.ldc | exact hS.ld rfl | exact hS.ld (by assumption) | exact by assumption | exact At.cellC (by assumption) | exact At.cellC ((by assumption : ∀ w', Sat _ w' _ → At w' _ _ _) _ hS) | exact (by assumption : ∀ w', Sat _ w' _ → World.cell? w' _ = some _) _ hS)) ?_
  refine D.evP 4 rfl (by kernel_rfl) rfl (fun _ => hs.to) (fun _ => E.lenSl rfl Try.underlying50) ?_
  refine D.evP 5 rfl (by kernel_rfl) rfl (fun _ => hs.to) (fun _ => (E.neq rfl rfl).isF (by simp)) ?_
  refine D.evP 6 rfl (by kernel_rfl) rfl (fun _ => hs.to) (fun _ => E.move rfl) ?_
  refine D.evPG 7 rfl (by kernel_rfl) rfl rfl rfl (fun _ => hs.to) (fun _ => E.move rfl) ?_
  first | refine D.evPG 9 rfl (by kernel_rfl) rfl rfl rfl (fun _ => hs.to) (fun _ => E.fieldAddr0 3 rfl Try.underlying52 rfl Try.sz50 rfl) ?_ | refine D.evPG 9 rfl (by kernel_rfl) rfl rfl rfl (fun _ => hs.to) (fun _ => E.fieldAddrN 3 rfl Try.underlying52 rfl Try.sz50 rfl) ?_
  refine D.evG 10 rfl (by kernel_rfl) rfl rfl rfl hs.to (fun _ hS => E.load1 rfl Try.underlying50 rfl (by first | exact hS.ldc | exact hS.ld rfl | exact hS.ld (by assumption) | exact by assumption | exact At.cellC (by assumption) | exact At.cellC ((by assumption : ∀ w', Sat _ w' _ → At w' _ _ _) _ hS) | exact (by assumption : ∀ w', Sat _ w' _ → World.cell? w' _ = some _) _ hS)) ?_
  refine D.evPG 11 rfl (by kernel_rfl) rfl rfl rfl (fun _ => hs.to) (fun _ => E.lenSl rfl Try.underlying50) ?_
  refine D.act 8 rfl (by kernel_rfl) ?_
  refine R.gyes rfl rfl ?_
  refine R.call ⟨_, _, Try.func16, rfl, by kernel_rfl⟩ rfl rfl (len_any hs) ?_
  rintro _ w28 ⟨rfl, hs⟩
  refine D.back hs.to ?_
  refine D.evPG 12 rfl (by kernel_rfl) rfl rfl rfl (fun _ => hs.to) (fun _ => (E.neq rfl rfl).isF (by simp)) ?_
  refine D.evP 13 rfl (by kernel_rfl) rfl (fun _ => hs.to) (fun _ => E.pickF rfl rfl) ?_
  refine D.evP 14 rfl (by kernel_rfl) rfl (fun _ => hs.to) (fun _ => E.move rfl) ?_
  refine D.evPG 15 rfl (by kernel_rfl) rfl rfl rfl (fun _ => hs.to) (fun _ => E.move rfl) ?_
  first | refine D.evPG 17 rfl (by kernel_rfl) rfl rfl rfl (fun _ => hs.to) (fun _ => E.fieldAddr0 2 rfl Try.underlying52 rfl Try.sz4 rfl) ?_ | refine D.evPG 17 rfl (by kernel_rfl) rfl rfl rfl (fun _ => hs.to) (fun _ => E.fieldAddrN 2 rfl Try.underlying52 rfl Try.sz4 rfl) ?_
  refine D.evG 18 rfl (by kernel_rfl) rfl rfl rfl hs.to (fun _ hS => E.load1 rfl Try.underlying4 rfl (by first | exact hS.ldc | exact hS.ld rfl | exact hS.ld (by assumption) | exact by assumption | exact At.cellC (by assumption) | exact At.cellC ((by assumption : ∀ w', Sat _ w' _ → At w' _ _ _) _ hS) | exact (by assumption : ∀ w', Sat _ w' _ → World.cell? w' _ = some _) _ hS)) ?_
  refine D.act 16 rfl (by kernel_rfl) ?_
  refine R.gyes rfl rfl ?_
  refine R.call ⟨_, _, Try.func17, rfl, by kernel_rfl⟩ rfl rfl (missed_any hs) ?_
  rintro _ w216 ⟨rfl, hs⟩
  refine D.back hs.to ?_
  refine D.evPG 19 rfl (by kernel_rfl) rfl rfl rfl (fun _ => hs.to) (fun _ => (E.neqB rfl rfl Try.underlying4).isB (c := false) (by simp [vw])) ?_
  refine D.evP 20 rfl (by kernel_rfl) rfl (fun _ => hs.to) (fun _ => E.pickF rfl rfl) ?_
  refine D.done rfl (by kernel_rfl) ?_
  refine X.keep [(0, _), (3, _), (5, _), (31, _)] ⟨rfl, rfl, rfl, rfl, trivial⟩ ?_
  refine X.next ?_
  refine C.cfalse rfl ?_
  refine C.skip ?_
  refine X.next ?_
  refine C.seq ?_
  refine C.region ?_
  refine R.ev rfl (E.assign rfl) ?_
  refine R.done ?_
  refine X.keep [(0, _), (3, _), (5, _), (6, _)] ⟨rfl, rfl, rfl, rfl, trivial⟩ ?_
  refine X.next ?_
  refine C.seq ?_
  refine C.seq ?_
  refine C.region ?_
  refine R.ev rfl (E.assign rfl) ?_
  refine R.done ?_
  refine X.keep [(0, _), (3, _), (5, _), (6, _), (7, _)] ⟨rfl, rfl, rfl, rfl, rfl, trivial⟩ ?_
  refine X.next ?_
  refine C.block ?_
  refine C.loop (T := Nat × Value × Hl) [(0, _), (3, _), (5, _)] (fun (k, v, _) => [(6, v), (7, .int .i64 (k : Nat))]) (fun (k, v, F') w' => k ≤ s.L.length ∧ RowL 29 encV 32 v (outL s (s.L.take k)) F' ∧ Sat K w' (F' :: F10 :: row b3 52 [.int .i64 (vw s).cap, .int .i64 (vw s).wait, .bool (vw s).inc, .slice ad s.L.length cap] :: Hs)) (fun (k, _) => s.L.length - k) ((0, .slice none 0 0, [])) ⟨rfl, rfl, rfl, rfl, rfl, trivial⟩ ⟨by omega, RowL.nilI, hs.nil⟩ ?_
  rintro ⟨k, v, F1⟩ w1 ⟨hk, r1, hs⟩
  have hol : (outL s (s.L.take k)).length ≤ 1000000 := by have := outL_le (s := s) (s.L.take k); simp at this; omega
  refine C.keep [(0, _), (3, _), (5, _), (6, _), (7, _)] ⟨rfl, rfl, rfl, rfl, rfl, trivial⟩ ?_
  refine C.seq ?_
  refine C.seq ?_
  refine C.region ?_
  refine R.ev rfl (E.move rfl) ?_
  refine R.ev rfl (E.move rfl) ?_
  refine R.ev rfl (E.lenSl rfl Try.underlying63) ?_
  refine R.ev rfl (E.lss rfl rfl) ?_
  refine R.done ?_
  refine X.keep [(0, _), (3, _), (5, _), (6, _), (7, _), (35, _)] ⟨rfl, rfl, rfl, rfl, rfl, rfl, trivial⟩ ?_
  refine X.next ?_
  refine C.cdec rfl (fun h35 => ?_) (fun h35 => ?_)
  · obtain ⟨y, bk_y, of_y, hy, my, ly, rfl, Ay⟩ := hs.el (i := k) (ad := ad5) (n := s.L.length) (c := cap5) (by omega)
    have ay := Ay _ hs
    obtain ⟨z, bk_z, of_z, hz, mz, lz, rfl, Az⟩ := hs.el (i := k) (ad := ad) (n := s.L.length) (c := cap) (by omega)
    have az := Az _ hs
    have hzy : z = vwE s y := by rw [show (vw s).L = s.L.map (vwE s) from rfl, List.getElem?_map, hy] at hz; simpa using hz.symm
    subst hzy
    have e2 := encV_len y.id
    have hh : has y.id s.L = true := has_iff.2 (List.mem_map.2 ⟨y, my, rfl⟩)
    refine C.skip ?_
    refine X.next ?_
    refine C.seq ?_
    refine C.block ?_
    refine C.seq ?_
    refine C.region ?_
    first | refine R.ev rfl (E.fieldAddr0 3 rfl Try.underlying52 rfl Try.sz50 rfl) ?_ | refine R.ev rfl (E.fieldAddrN 3 rfl Try.underlying52 rfl Try.sz50 rfl) ?_
    refine R.ev rfl (E.load1 rfl Try.underlying50 rfl (by first | exact hs.ldc | exact hs.ld rfl | exact hs.ld (by assumption) | exact by assumption | exact At.cellC (by assumption))) ?_
    refine R.ev rfl (E.move rfl) ?_
    refine R.ev rfl (E.indexAddr rfl rfl Try.underlying50 Try.sz90 rfl (by first | omega | decide)) ?_
    refine R.ev rfl (E.loadRowC rfl Try.underlying90 rfl Try.sz90 (by first | exact ⟨hs.ldA, by first | rfl | assumption | exact encV_len _ | exact Enc.len _ | exact len_ub (by assumption)⟩ | exact ⟨hs.ldP rfl, by first | rfl | assumption | exact encV_len _ | exact Enc.len _ | exact len_ub (by assumption)⟩ | exact ⟨hs.ldM rfl rfl, by first | rfl | assumption | exact encV_len _ | exact Enc.len _ | exact len_ub (by assumption)⟩ | exact ⟨hs.ldM (by assumption) (by first | rfl | assumption), by first | rfl | assumption | exact encV_len _ | exact Enc.len _ | exact len_ub (by assumption)⟩ | exact ⟨by assumption, by first | rfl | assumption | exact encV_len _ | exact Enc.len _ | exact len_ub (by assumption)⟩ | exact hs.ldp | exact At.partC (by assumption))) ?_
    refine R.sallocA hs Try.zr90 rfl ?_
    intro b8 w8 hs
    first | refine R.cstoreAll hs rfl rfl Try.sz90 (by first | rfl | assumption | exact encV_len _ | exact Enc.len _ | exact len_ub (by assumption) | simp [*]) (by first | rfl | assumption | exact encV_len _ | exact Enc.len _ | exact len_ub (by assumption) | simp [*]) (by first | assumption | exact OneL.all | exact Enc.one _ | exact ub_all _ | (repeat' (first | refine List.forall_mem_cons.2 ⟨?_, ?_⟩ | exact List.forall_mem_nil _ | rfl | exact OneC.one | exact KRow.oneC' (by assumption)))) ?_ | refine R.cstore hs rfl rfl Try.sz90 (by first | rfl | assumption | exact encV_len _ | exact Enc.len _ | exact len_ub (by assumption) | simp [*]) (by simp [*]) (by first | assumption | exact OneL.all | exact Enc.one _ | exact ub_all _ | (repeat' (first | refine List.forall_mem_cons.2 ⟨?_, ?_⟩ | exact List.forall_mem_nil _ | rfl | exact OneC.one | exact KRow.oneC' (by assumption)))) ?_
    intro w8_6 hs
    try simp only [List.set_cons_zero, List.set_cons_succ] at hs
    replace Ay := hs.elAt (b := bk_y) (off := of_y) (n := s.L.length) (cap5) hy
    have ay := Ay _ hs
    refine R.done ?_
    refine X.keep [(0, _), (3, _), (5, _), (6, _), (7, _), (8, _)] ⟨rfl, rfl, rfl, rfl, rfl, rfl, trivial⟩ ?_
    refine X.next ?_
    refine C.seq ?_
    refine C.seq ?_
    refine C.drawn (SatS hs) ([4, 6, 13, 15, 23, 25, 34], [0, 1, 2, 3, 5, 7, 8, 9, 10, 11, 12, 14, 16, 17, 18, 19, 20, 21, 22, 24, 26, 27, 28, 29, 30, 31, 32, 33, 36, 37]) (by kernel_rfl) ?_
    have hs := hs.drew
    refine D.evP 0 rfl (by kernel_rfl) rfl (fun _ => hs.to) (fun _ => E.move rfl) ?_
    refine D.evP 1 rfl (by kernel_rfl) rfl (fun _ => hs.to) (fun _ => E.move rfl) ?_
    refine D.evP 2 rfl (by kernel_rfl) rfl (fun _ => hs.to) (fun _ => E.indexAddr rfl rfl Try.underlying63 Try.sz67 rfl (by first | omega | decide)) ?_
    first | refine D.evP 3 rfl (by kernel_rfl) rfl (fun _ => hs.to) (fun _ => E.fieldAddr0 0 rfl Try.underlying67 rfl Try.sz30 rfl) ?_ | refine D.evP 3 rfl (by kernel_rfl) rfl (fun _ => hs.to) (fun _ => E.fieldAddrN 0 rfl Try.underlying67 rfl Try.sz30 rfl) ?_
    first | refine D.evP 5 rfl (by kernel_rfl) rfl (fun _ => hs.to) (fun _ => E.fieldAddr0 0 rfl Try.underlying90 rfl Try.sz29 rfl) ?_ | refine D.evP 5 rfl (by kernel_rfl) rfl (fun _ => hs.to) (fun _ => E.fieldAddrN 0 rfl Try.underlying90 rfl Try.sz29 rfl) ?_
    refine D.ev 4 rfl (by kernel_rfl) rfl hs.to (fun _ hS => E.loadRowC rfl Try.underlying30 rfl Try.sz30 (by first | exact ⟨hS.ldA, by first | rfl | assumption | exact encV_len _ | exact Enc.len _ | exact len_ub (by assumption)⟩ | exact ⟨hS.ldP rfl, by first | rfl | assumption | exact encV_len _ | exact Enc.len _ | exact len_ub (by assumption)⟩ | exact ⟨hS.ldM rfl rfl, by first | rfl | assumption | exact encV_len _ | exact Enc.len _ | exact len_ub (by assumption)⟩ | exact ⟨hS.ldM (by assumption) (by first | rfl | assumption), by first | rfl | assumption | exact encV_len _ | exact Enc.len _ | exact len_ub (by assumption)⟩ | exact ⟨by assumption, by first | rfl | assumption | exact encV_len _ | exact Enc.len _ | exact len_ub (by assumption)⟩ | exact ⟨(by assumption : ∀ w', Sat _ w' _ → At w' _ _ _) _ hS, by first | rfl | assumption | exact encV_len _ | exact Enc.len _ | exact len_ub (by assumption)⟩ | exact hS.ldp | exact At.partC (by assumption) | exact At.partC ((by assumption : ∀ w', Sat _ w' _ → At w' _ _ _) _ hS))) ?_
    refine D.ev 6 rfl (by kernel_rfl) rfl hs.to (fun _ hS => E.loadRowC rfl Try.underlying29 rfl Try.sz29 (by first | exact ⟨hS.ldA, by first | rfl | assumption | exact encV_len _ | exact Enc.len _ | exact len_ub (by assumption)⟩ | exact ⟨hS.ldP rfl, by first | rfl | assumption | exact encV_len _ | exact Enc.len _ | exact len_ub (by assumption)⟩ | exact ⟨hS.ldM rfl rfl, by first | rfl | assumption | exact encV_len _ | exact Enc.len _ | exact len_ub (by assumption)⟩ | exact ⟨hS.ldM (by assumption) (by first | rfl | assumption), by first | rfl | assumption | exact encV_len _ | exact Enc.len _ | exact len_ub (by assumption)⟩ | exact ⟨by assumption, by first | rfl | assumption | exact encV_len _ | exact Enc.len _ | exact len_ub (by assumption)⟩ | exact ⟨(by assumption : ∀ w', Sat _ w' _ → At w' _ _ _) _ hS, by first | rfl | assumption | exact encV_len _ | exact Enc.len _ | exact len_ub (by assumption)⟩ | exact hS.ldp | exact At.partC (by assumption) | exact At.partC ((by assumption : ∀ w', Sat _ w' _ → At w' _ _ _) _ hS))) ?_
    refine D.evP 7 rfl (by kernel_rfl) rfl (fun _ => hs.to) (fun _ => (E.neV 10 (a := y.id) (b := y.id) rfl rfl Try.lv30 rfl Try.underlying30 rfl Try.gd30).isB (c := false) (by simp)) ?_
    refine D.evP 8 rfl (by kernel_rfl) rfl (fun _ => hs.to) (fun _ => E.move rfl) ?_
    refine D.evPG 9 rfl (by kernel_rfl) rfl rfl rfl (fun _ => hs.to) (fun _ => E.move rfl) ?_
    refine D.evPG 10 rfl (by kernel_rfl) rfl rfl rfl (fun _ => hs.to) (fun _ => E.move rfl) ?_
    refine D.evPG 11 rfl (by kernel_rfl) rfl rfl rfl (fun _ => hs.to) (fun _ => E.indexAddr rfl rfl Try.underlying63 Try.sz67 rfl (by first | omega | decide)) ?_
    first | refine D.evPG 12 rfl (by kernel_rfl) rfl rfl rfl (fun _ => hs.to) (fun _ => E.fieldAddr0 32 rfl Try.underlying67 rfl Try.sz3 rfl) ?_ | refine D.evPG 12 rfl (by kernel_rfl) rfl rfl rfl (fun _ => hs.to) (fun _ => E.fieldAddrN 32 rfl Try.underlying67 rfl Try.sz3 rfl) ?_
    first | refine D.evPG 14 rfl (by kernel_rfl) rfl rfl rfl (fun _ => hs.to) (fun _ => E.fieldAddr0 32 rfl Try.underlying90 rfl Try.sz3 rfl) ?_ | refine D.evPG 14 rfl (by kernel_rfl) rfl rfl rfl (fun _ => hs.to) (fun _ => E.fieldAddrN 32 rfl Try.underlying90 rfl Try.sz3 rfl) ?_
    refine D.evG 13 rfl (by kernel_rfl) rfl rfl rfl hs.to (fun _ hS => E.load1 rfl Try.underlying3 rfl (by first | exact hS.ldc | exact hS.ld rfl | exact hS.ld (by assumption) | exact by assumption | exact At.cellC (by assumption) | exact At.cellC ((by assumption : ∀ w', Sat _ w' _ → At w' _ _ _) _ hS) | exact (by assumption : ∀ w', Sat _ w' _ → World.cell? w' _ = some _) _ hS)) ?_
    refine D.evG 15 rfl (by kernel_rfl) rfl rfl rfl hs.to (fun _ hS => E.load1 rfl Try.underlying3 rfl (by first | exact hS.ldc | exact hS.ld rfl | exact hS.ld (by assumption) | exact by assumption | exact At.cellC (by assumption) | exact At.cellC ((by assumption : ∀ w', Sat _ w' _ → At w' _ _ _) _ hS) | exact (by assumption : ∀ w', Sat _ w' _ → World.cell? w' _ = some _) _ hS)) ?_
    refine D.evPG 16 rfl (by kernel_rfl) rfl rfl rfl (fun _ => hs.to) (fun _ => (E.neq rfl rfl).isF (by simp [vwE])) ?_
    refine D.evP 17 rfl (by kernel_rfl) rfl (fun _ => hs.to) (fun _ => E.pickF rfl rfl) ?_
    refine D.evP 18 rfl (by kernel_rfl) rfl (fun _ => hs.to) (fun _ => E.move rfl) ?_
    refine D.evPG 19 rfl (by kernel_rfl) rfl rfl rfl (fun _ => hs.to) (fun _ => E.move rfl) ?_
    refine D.evPG 20 rfl (by kernel_rfl) rfl rfl rfl (fun _ => hs.to) (fun _ => E.move rfl) ?_
    refine D.evPG 21 rfl (by kernel_rfl) rfl rfl rfl (fun _ => hs.to) (fun _ => E.indexAddr rfl rfl Try.underlying63 Try.sz67 rfl (by first | omega | decide)) ?_
    first | refine D.evPG 22 rfl (by kernel_rfl) rfl rfl rfl (fun _ => hs.to) (fun _ => E.fieldAddr0 33 rfl Try.underlying67 rfl Try.sz3 rfl) ?_ | refine D.evPG 22 rfl (by kernel_rfl) rfl rfl rfl (fun _ => hs.to) (fun _ => E.fieldAddrN 33 rfl Try.underlying67 rfl Try.sz3 rfl) ?_
    first | refine D.evPG 24 rfl (by kernel_rfl) rfl rfl rfl (fun _ => hs.to) (fun _ => E.fieldAddr0 33 rfl Try.underlying90 rfl Try.sz3 rfl) ?_ | refine D.evPG 24 rfl (by kernel_rfl) rfl rfl rfl (fun _ => hs.to) (fun _ => E.fieldAddrN 33 rfl Try.underlying90 rfl Try.sz3 rfl) ?_
    refine D.evG 23 rfl (by kernel_rfl) rfl rfl rfl hs.to (fun _ hS => E.load1 rfl Try.underlying3 rfl (by first | exact hS.ldc | exact hS.ld rfl | exact hS.ld (by assumption) | exact by assumption | exact At.cellC (by assumption) | exact At.cellC ((by assumption : ∀ w', Sat _ w' _ → At w' _ _ _) _ hS) | exact (by assumption : ∀ w', Sat _ w' _ → World.cell? w' _ = some _) _ hS)) ?_
    refine D.evG 25 rfl (by kernel_rfl) rfl rfl rfl hs.to (fun _ hS => E.load1 rfl Try.underlying3 rfl (by first | exact hS.ldc | exact hS.ld rfl | exact hS.ld (by assumption) | exact by assumption | exact At.cellC (by assumption) | exact At.cellC ((by assumption : ∀ w', Sat _ w' _ → At w' _ _ _) _ hS) | exact (by assumption : ∀ w', Sat _ w' _ → World.cell? w' _ = some _) _ hS)) ?_
    refine D.evPG 26 rfl (by kernel_rfl) rfl rfl rfl (fun _ => hs.to) (fun _ => (E.neq rfl rfl).isF (by simp [vwE])) ?_
    refine D.evP 27 rfl (by kernel_rfl) rfl (fun _ => hs.to) (fun _ => E.pickF rfl rfl) ?_
    refine D.evP 28 rfl (by kernel_rfl) rfl (fun _ => hs.to) (fun _ => E.move rfl) ?_
    refine D.evPG 29 rfl (by kernel_rfl) rfl rfl rfl (fun _ => hs.to) (fun _ => E.move rfl) ?_
    refine D.evPG 30 rfl (by kernel_rfl) rfl rfl rfl (fun _ => hs.to) (fun _ => E.move rfl) ?_
    refine D.evPG 31 rfl (by kernel_rfl) rfl rfl rfl (fun _ => hs.to) (fun _ => E.move rfl) ?_
    refine D.evPG 32 rfl (by kernel_rfl) rfl rfl rfl (fun _ => hs.to) (fun _ => E.indexAddr rfl rfl Try.underlying63 Try.sz67 rfl (by first | omega | decide)) ?_
    first | refine D.evPG 33 rfl (by kernel_rfl) rfl rfl rfl (fun _ => hs.to) (fun _ => E.fieldAddr0 0 rfl Try.underlying67 rfl Try.sz30 rfl) ?_ | refine D.evPG 33 rfl (by kernel_rfl) rfl rfl rfl (fun _ => hs.to) (fun _ => E.fieldAddrN 0 rfl Try.underlying67 rfl Try.sz30 rfl) ?_
    refine D.evG 34 rfl (by kernel_rfl) rfl rfl rfl hs.to (fun _ hS => E.loadRowC rfl Try.underlying30 rfl Try.sz30 (by first | exact ⟨hS.ldA, by first | rfl | assumption | exact encV_len _ | exact Enc.len _ | exact len_ub (by assumption)⟩ | exact ⟨hS.ldP rfl, by first | rfl | assumption | exact encV_len _ | exact Enc.len _ | exact len_ub (by assumption)⟩ | exact ⟨hS.ldM rfl rfl, by first | rfl | assumption | exact encV_len _ | exact Enc.len _ | exact len_ub (by assumption)⟩ | exact ⟨hS.ldM (by assumption) (by first | rfl | assumption), by first | rfl | assumption | exact encV_len _ | exact Enc.len _ | exact len_ub (by assumption)⟩ | exact ⟨by assumption, by first | rfl | assumption | exact encV_len _ | exact Enc.len _ | exact len_ub (by assumption)⟩ | exact ⟨(by assumption : ∀ w', Sat _ w' _ → At w' _ _ _) _ hS, by first | rfl | assumption | exact encV_len _ | exact Enc.len _ | exact len_ub (by assumption)⟩ | exact hS.ldp | exact At.partC (by assumption) | exact At.partC ((by assumption : ∀ w', Sat _ w' _ → At w' _ _ _) _ hS))) ?_
    refine D.act 35 rfl (by kernel_rfl) ?_
    refine R.gyes rfl rfl ?_
    refine R.call ⟨_, _, Try.func18, rfl, by kernel_rfl⟩ rfl rfl (has_any y.id hs) ?_
    rintro _ w935 ⟨h935, hs⟩
    rw [hh] at h935
    subst h935
    refine D.backT (by kernel_rfl) ?_
    refine D.evPG 36 rfl (by kernel_rfl) rfl rfl rfl (np (by kernel_rfl)) (fun _ => E.notT rfl) ?_
    refine D.evP 37 rfl (by kernel_rfl) rfl (np (by kernel_rfl)) (fun _ => E.pickF rfl rfl) ?_
    refine D.done rfl (by kernel_rfl) ?_
    refine X.keep [(0, _), (3, _), (5, _), (6, _), (7, _), (8, _), (80, _)] ⟨rfl, rfl, rfl, rfl, rfl, rfl, rfl, trivial⟩ ?_
    refine X.next ?_
    refine C.cfalse rfl ?_
    refine C.skip ?_
    refine X.next ?_
    refine C.seq ?_
    refine C.region ?_
    first | refine R.ev rfl (E.fieldAddr0 34 rfl Try.underlying90 rfl Try.sz4 rfl) ?_ | refine R.ev rfl (E.fieldAddrN 34 rfl Try.underlying90 rfl Try.sz4 rfl) ?_
    refine R.ev rfl (E.load1 rfl Try.underlying4 rfl (by first | exact hs.ldc | exact hs.ld rfl | exact hs.ld (by assumption) | exact by assumption | exact At.cellC (by assumption))) ?_
    refine R.done ?_
    refine X.keep [(0, _), (3, _), (5, _), (6, _), (7, _), (8, _), (82, _)] ⟨rfl, rfl, rfl, rfl, rfl, rfl, rfl, trivial⟩ ?_
    refine X.next ?_
    refine C.cbool rfl (fun h82 => ?_) (fun h82 => ?_)
    · refine C.region ?_
      refine R.ev rfl (E.move rfl) ?_
      first | refine R.ev rfl (E.fieldAddr0 0 rfl Try.underlying90 rfl Try.sz29 rfl) ?_ | refine R.ev rfl (E.fieldAddrN 0 rfl Try.underlying90 rfl Try.sz29 rfl) ?_
      refine R.ev rfl (E.loadRowC rfl Try.underlying29 rfl Try.sz29 (by first | exact ⟨hs.ldA, by first | rfl | assumption | exact encV_len _ | exact Enc.len _ | exact len_ub (by assumption)⟩ | exact ⟨hs.ldP rfl, by first | rfl | assumption | exact encV_len _ | exact Enc.len _ | exact len_ub (by assumption)⟩ | exact ⟨hs.ldM rfl rfl, by first | rfl | assumption | exact encV_len _ | exact Enc.len _ | exact len_ub (by assumption)⟩ | exact ⟨hs.ldM (by assumption) (by first | rfl | assumption), by first | rfl | assumption | exact encV_len _ | exact Enc.len _ | exact len_ub (by assumption)⟩ | exact ⟨by assumption, by first | rfl | assumption | exact encV_len _ | exact Enc.len _ | exact len_ub (by assumption)⟩ | exact hs.ldp | exact At.partC (by assumption))) ?_
      refine R.buildSliceA rfl Try.underlying31 Try.sz29 Try.zr29 rfl (by first | rfl | assumption | exact encV_len _ | exact Enc.len _ | simp [*]) (by decide) (by decide) ?_
      intro b86 w86 n86
      have hs := hs.new n86
      refine R.capp1 (y.id) hs rfl rfl Try.underlying31 Try.by29 (by rfl) rfl (by first | exact hs.ldA | exact hs.ldP rfl | exact by assumption) (by decide) (by first | omega | (simp only [List.length_append, List.length_cons, List.length_nil] at *; omega)) (by first | omega | (simp only [List.length_append, List.length_cons, List.length_nil] at *; omega)) ?_
      intro v87 w87 F87 r87 hs
      refine R.ev rfl (E.assign rfl) ?_
      refine R.done ?_
      refine X.keep [(0, _), (3, _), (5, _), (6, _), (7, _)] ⟨rfl, rfl, rfl, rfl, rfl, trivial⟩ ?_
      refine X.blockNormal ?_
      refine X.next ?_
      refine C.region ?_
      refine R.ev rfl (E.move rfl) ?_
      refine R.ev rfl (E.add rfl rfl (by omega) (by omega)) ?_
      refine R.ev rfl (E.assign rfl) ?_
      refine R.done ?_
      refine X.keep [(0, _), (3, _), (5, _), (6, _), (7, _)] ⟨rfl, rfl, rfl, rfl, rfl, trivial⟩ ?_
      first
        | exact X.again (k + 1, v87, F87) ⟨rfl, rfl, rfl, rfl, rfl, trivial⟩ ⟨by omega, by rw [outL_snoc hy, if_pos (show s.out y.id = true from h82)]; exact r87, hs.to⟩ (by show _ - _ < _ - _; omega)
        | exact X.again (k + 1, v, F1) ⟨rfl, rfl, rfl, rfl, rfl, trivial⟩ ⟨by omega, by rw [outL_snoc hy, if_neg (by rw [show s.out y.id = false from h82]; decide), List.append_nil]; exact r1, hs.to⟩ (by show _ - _ < _ - _; omega)
    · refine C.skip ?_
      refine X.blockNormal ?_
      refine X.next ?_
      refine C.region ?_
      refine R.ev rfl (E.move rfl) ?_
      refine R.ev rfl (E.add rfl rfl (by omega) (by omega)) ?_
      refine R.ev rfl (E.assign rfl) ?_
      refine R.done ?_
      refine X.keep [(0, _), (3, _), (5, _), (6, _), (7, _)] ⟨rfl, rfl, rfl, rfl, rfl, trivial⟩ ?_
      first
        | exact X.again (k + 1, v87, F87) ⟨rfl, rfl, rfl, rfl, rfl, trivial⟩ ⟨by omega, by rw [outL_snoc hy, if_pos (show s.out y.id = true from h82)]; exact r87, hs.to⟩ (by show _ - _ < _ - _; omega)
        | exact X.again (k + 1, v, F1) ⟨rfl, rfl, rfl, rfl, rfl, trivial⟩ ⟨by omega, by rw [outL_snoc hy, if_neg (by rw [show s.out y.id = false from h82]; decide), List.append_nil]; exact r1, hs.to⟩ (by show _ - _ < _ - _; omega)
  · refine C.exit ?_
    refine X.thenExit ?_
    refine X.loopExit ?_
    refine X.blockExit ?_
    refine X.next ?_
    refine C.seq ?_
    refine C.region ?_
    have hke : k = s.L.length := by omega
    rw [hke, List.take_length] at r1
    refine R.ev rfl (E.move rfl) ?_
    refine R.call ⟨_, _, Try.func34, rfl, by kernel_rfl⟩ rfl rfl (outstanding_any hs (by omega)) ?_
    rintro v89 w89 ⟨F89, r89, hs⟩
    refine R.ev rfl (E.move rfl) ?_
    refine R.call ⟨_, _, Try.func54, rfl, by kernel_rfl⟩ rfl rfl (same_any (L := outL s s.L) (M := outL s s.L) hs (by have := outL_le (s := s) s.L; omega)) ?_
    rintro _ w91 ⟨h91, hs⟩
    rw [decide_eq_true rfl] at h91
    subst h91
    refine R.ev rfl (E.assign rfl) ?_
    refine R.done ?_
    refine X.keep [(4, _)] ⟨rfl, trivial⟩ ?_
    refine X.next ?_
    refine C.ret ?_
    refine X.ret1 rfl rfl ?_
    exact ⟨rfl, hs.to⟩
end Go.Proofs.Ytoidpcmcbmioiaa
