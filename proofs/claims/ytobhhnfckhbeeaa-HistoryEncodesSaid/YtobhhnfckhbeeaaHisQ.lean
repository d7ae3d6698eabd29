/-
  package history: Clone and Equal.
-/
import Derived.Test.YtobhhnfckhbeeaaMapC
import Derived.Test.YtobhhnfckhbeeaaPlay
namespace Go.Proofs.Ytobhhnfckhbeeaa
open Go.Eng Go.RowKit Go.Sort
variable {K : Kn} {Hs Rs : List Hl} {F : Hl} {w : World} {p : Nat} {s : Hi} {L : List HEnt} {v : Value}
theorem mclone_any {b : Nat} {M : HMap} {es : Array MapEntry} {clock : Nat} (hs : Sat K w Hs) (hr : MapRep ekI evH M es clock) [hb : InH b (.map es clock) Hs] :
    Ret Try.prog 53 #[.map (some b)] w fun r w' => ∃ b' F', r = .map (some b') ∧ MapL ekI evH (.map (some b')) M F' ∧ Sat K w' (F' :: Hs) := by
  refine Ret.enter (n := 9) (args := [.map (some b)]) Try.func53 rfl rfl ?_
  refine C.keep [(0, _)] ⟨rfl, trivial⟩ ?_
  refine C.seq ?_
  refine C.region ?_
  refine R.ev rfl (E.assign rfl) ?_
  refine R.done ?_
  refine X.keep [(0, _)] ⟨rfl, trivial⟩ ?_
  refine X.next ?_
  refine C.seq ?_
  refine C.seq ?_
  refine C.region ?_
  refine R.ev rfl (E.move rfl) ?_
  refine R.ev rfl (E.mapNilF rfl rfl Try.underlying86) ?_
  refine R.done ?_
  refine X.keep [(0, _), (4, _)] ⟨rfl, rfl, trivial⟩ ?_
  refine X.next ?_
  refine C.cfalse rfl ?_
  refine C.skip ?_
  refine X.next ?_
  refine C.seq ?_
  refine C.region ?_
  refine R.ev rfl (E.move rfl) ?_
  refine R.ev rfl (E.mkIface rfl Try.underlying86) ?_
  refine R.mclone ⟨_, Try.func66, by kernel_rfl, by kernel_rfl, by kernel_rfl, (by kernel_rfl : Extern.find _ = some Extern.MapsClone.clone)⟩ rfl hs rfl ?_
  intro b3 w3 hs
  refine R.ev rfl (E.assertM rfl Try.underlying86) ?_
  refine R.ev rfl (E.assign rfl) ?_
  refine R.done ?_
  refine X.keep [(2, _)] ⟨rfl, trivial⟩ ?_
  refine X.next ?_
  refine C.ret ?_
  refine X.ret1 rfl rfl ?_
  exact ⟨b3, _, rfl, ⟨b3, es, clock, rfl, rfl, hr⟩, hs⟩
theorem clone_any (hs : Sat K w Hs) [hw : HiIn p s Hs] : Ret Try.prog 33 #[ptr p] w fun r w' => ∃ q F', r = ptr q ∧ HiL q s F' ∧ Sat K w' (F' :: Hs) := by
  obtain ⟨m, G, hin, hm, hH⟩ := hw.ex
  obtain ⟨b, es, clock, rfl, rfl, hrep⟩ := hm.ex
  have hib : InH b (.map es clock) Hs := ⟨hH.sub _ (by simp)⟩
  refine Ret.enter (n := 16) (args := [ptr p]) Try.func33 rfl rfl ?_
  refine C.keep [(0, _)] ⟨rfl, trivial⟩ ?_
  refine C.seq ?_
  refine C.region ?_
  refine R.ev rfl (E.assign rfl) ?_
  refine R.done ?_
  refine X.keep [(0, _)] ⟨rfl, trivial⟩ ?_
  refine X.next ?_
  refine C.seq ?_
  refine C.seq ?_
  refine C.region ?_
  refine R.ev rfl (E.move rfl) ?_
  refine R.ev rfl (E.eqlNilF rfl rfl Try.underlying35) ?_
  refine R.done ?_
  refine X.keep [(0, _), (4, _)] ⟨rfl, rfl, trivial⟩ ?_
  refine X.next ?_
  refine C.cfalse rfl ?_
  refine C.skip ?_
  refine X.next ?_
  refine C.seq ?_
  refine C.drawn (SatS hs) ([3, 8], [0, 1, 2, 5, 6, 7, 9, 11]) (by kernel_rfl) ?_
  have hs := hs.drew
  refine D.evP 0 rfl (by kernel_rfl) rfl (fun _ => hs.to) (fun _ => E.move rfl) ?_
  refine D.evP 1 rfl (by kernel_rfl) rfl (fun _ => hs.to) (fun _ => E.nilCheck rfl) ?_
  first | refine D.evP 2 rfl (by kernel_rfl) rfl (fun _ => hs.to) (fun _ => E.fieldAddr0 0 rfl Try.underlying88 rfl Try.sz86 rfl) ?_ | refine D.evP 2 rfl (by kernel_rfl) rfl (fun _ => hs.to) (fun _ => E.fieldAddrN 0 rfl Try.underlying88 rfl Try.sz86 rfl) ?_
  refine D.evP 5 rfl (by kernel_rfl) rfl (fun _ => hs.to) (fun _ => E.move rfl) ?_
  refine D.evP 6 rfl (by kernel_rfl) rfl (fun _ => hs.to) (fun _ => E.nilCheck rfl) ?_
  first | refine D.evP 7 rfl (by kernel_rfl) rfl (fun _ => hs.to) (fun _ => E.fieldAddr0 1 rfl Try.underlying88 rfl Try.sz3 rfl) ?_ | refine D.evP 7 rfl (by kernel_rfl) rfl (fun _ => hs.to) (fun _ => E.fieldAddrN 1 rfl Try.underlying88 rfl Try.sz3 rfl) ?_
  refine D.ev 3 rfl (by kernel_rfl) rfl hs.to (fun _ hS => E.load1 rfl Try.underlying86 rfl (by first | exact hS.ldc | exact hS.ld rfl | exact hS.ld (by assumption) | exact by assumption | exact At.cellC (by assumption) | exact At.cellC ((by assumption : ∀ w', Sat _ w' _ → At w' _ _ _) _ hS) | exact (by assumption : ∀ w', Sat _ w' _ → World.cell? w' _ = some _) _ hS)) ?_
  refine D.ev 8 rfl (by kernel_rfl) rfl hs.to (fun _ hS => E.load1 rfl Try.underlying3 rfl (by first | exact hS.ldc | exact hS.ld rfl | exact hS.ld (by assumption) | exact by assumption | exact At.cellC (by assumption) | exact At.cellC ((by assumption : ∀ w', Sat _ w' _ → At w' _ _ _) _ hS) | exact (by assumption : ∀ w', Sat _ w' _ → World.cell? w' _ = some _) _ hS)) ?_
  refine D.act 4 rfl (by kernel_rfl) ?_
  refine R.call ⟨_, _, Try.func53, rfl, by kernel_rfl⟩ rfl rfl (mclone_any hs hrep) ?_
  rintro _ w9 ⟨b9, F9, rfl, hm9, hs⟩
  refine D.back hs.to ?_
  refine D.evP 9 rfl (by kernel_rfl) rfl (fun _ => hs.to) (fun _ => E.buildG (r := [.map (some b9), .int .i64 s.cut]) rfl Try.underlying88 Try.zr88 Try.ql88 (by kernel_rfl) (by kernel_rfl) ⟨⟨_, rfl, by first | rfl | exact vsz _ | simp [Value.cells, *]⟩, ⟨_, rfl, by first | rfl | exact vsz _ | simp [Value.cells, *]⟩, trivial⟩ (by first | rfl | simp [setF, fieldsOf, Value.cells])) ?_
  refine D.act 10 rfl (by kernel_rfl) ?_
  refine R.sboxA hs rfl rfl ?_
  intro b15 w15 hs
  refine D.backT (by kernel_rfl) ?_
  refine D.evP 11 rfl (by kernel_rfl) rfl (np (by kernel_rfl)) (fun _ => E.assign rfl) ?_
  refine D.done rfl (by kernel_rfl) ?_
  refine X.keep [(2, _)] ⟨rfl, trivial⟩ ?_
  refine X.next ?_
  refine C.ret ?_
  refine X.ret1 rfl rfl ?_
  exact ⟨b15, _, rfl, HiL.mk' hm9, hs.to⟩
def eqM (M1 M2 : HMap) : Bool := decide (M1.length = M2.length) && M1.all (fun q => decide (lkM M2 q.1 = some q.2))
theorem eqM_no {M1 M2 : HMap} {q : Vec 32 × HEnt} (hm : q ∈ M1) (h : lkM M2 q.1 ≠ some q.2) : eqM M1 M2 = false := by
  unfold eqM
  have : M1.all (fun q => decide (lkM M2 q.1 = some q.2)) = false := by
    rw [List.all_eq_false]; exact ⟨q, hm, by simpa using h⟩
  rw [this, Bool.and_false]
theorem copy_step {κ ν : Type} {M Md Lr L8 : List (κ × ν)} {q : κ × ν} (h : (Md ++ Lr).Perm M) (hp : Lr.Perm (q :: L8)) : (Md ++ [q] ++ L8).Perm M := by
  have h2 : (Md ++ (q :: L8)).Perm M := (List.Perm.append_left Md hp.symm).trans h
  simpa using h2
theorem equalM_any {m2 : Value} {b : Nat} {M1 M2 : HMap} {es : Array MapEntry} {clock : Nat} (hs : Sat K w Hs) (hr : MapRep ekI evH M1 es clock) [hb : InH b (.map es clock) Hs] [h1 : MapIn ekI evH (.map (some b)) M1 Hs] [h2 : MapIn ekI evH m2 M2 Hs] :
    Ret Try.prog 52 #[.map (some b), m2] w fun r w' => r = .bool (eqM M1 M2) ∧ Sat K w' Hs := by
  refine Ret.enter (n := 34) (args := [.map (some b), m2]) Try.func52 rfl rfl ?_
  refine C.keep [(0, _), (1, _)] ⟨rfl, rfl, trivial⟩ ?_
  refine C.seq ?_
  refine C.region ?_
  refine R.ev rfl (E.assign rfl) ?_
  refine R.done ?_
  refine X.keep [(0, _), (1, _)] ⟨rfl, rfl, trivial⟩ ?_
  refine X.next ?_
  refine C.seq ?_
  refine C.seq ?_
  refine C.region ?_
  refine R.ev rfl (E.move rfl) ?_
  refine R.ev rfl (E.lenM hs rfl Try.underlying86) ?_
  refine R.ev rfl (E.move rfl) ?_
  refine R.ev rfl (E.lenM hs rfl Try.underlying86) ?_
  refine R.ev rfl (E.neq rfl rfl) ?_
  refine R.done ?_
  refine X.keep [(0, _), (1, _), (13, _)] ⟨rfl, rfl, rfl, trivial⟩ ?_
  refine X.next ?_
  refine C.cdec rfl (fun h13 => ?_) (fun h13 => ?_)
  · refine C.seq ?_
    refine C.region ?_
    refine R.ev rfl (E.assign rfl) ?_
    refine R.done ?_
    refine X.keep [(4, _)] ⟨rfl, trivial⟩ ?_
    refine X.next ?_
    refine C.ret ?_
    refine X.thenRet ?_
    refine X.ret1 rfl rfl ?_
    exact ⟨by rw [eqM, decide_eq_false (by omega), Bool.false_and], hs.to⟩
  · refine C.skip ?_
    refine X.next ?_
    refine C.seq ?_
    refine C.seq ?_
    refine C.region ?_
    refine R.ev rfl (E.move rfl) ?_
    refine R.crange hs rfl Try.underlying86 (hr) rfl ?_
    intro r15 w15 F15 it15 hs
    refine R.done ?_
    refine X.keep [(1, _), (15, _)] ⟨rfl, rfl, trivial⟩ ?_
    refine X.next ?_
    refine C.block ?_
    refine C.loop (T := HMap × HMap × Hl) [(1, _), (15, _)] (fun _ => []) (fun (Lr, Ls, Fi) w' => ItP ekI evH r15 b es clock Lr Fi ∧ (Ls ++ Lr).Perm M1 ∧ (∀ q ∈ Ls, lkM M2 q.1 = some q.2) ∧ Sat K w' (Fi :: Hs)) (fun (Lr, _) => Lr.length) ((M1, [], F15)) ⟨rfl, rfl, trivial⟩ ⟨it15, by simp, by simp, hs⟩ ?_
    rintro ⟨Lr, Ls, Fi⟩ w1 ⟨hit, hpm, hok, hs⟩
    refine C.keep [(1, _), (15, _)] ⟨rfl, rfl, trivial⟩ ?_
    refine C.seq ?_
    refine C.region ?_
    refine R.cnext hs rfl (hr) (hit) rfl ?_ ?_
    · intro hover
      refine R.ev rfl (E.extract rfl rfl) ?_
      refine R.done ?_
      refine X.keep [(1, _), (15, _), (17, _)] ⟨rfl, rfl, rfl, trivial⟩ ?_
      refine X.next ?_
      refine C.seq ?_
      refine C.cfalse rfl ?_
      refine C.exit ?_
      refine X.thenExit ?_
      refine X.loopExit ?_
      refine X.blockExit ?_
      refine X.next ?_
      refine C.seq ?_
      refine C.region ?_
      refine R.ev rfl (E.assign rfl) ?_
      refine R.done ?_
      refine X.keep [(4, _)] ⟨rfl, trivial⟩ ?_
      refine X.next ?_
      refine C.ret ?_
      refine X.ret1 rfl rfl ?_
      rw [hover, List.append_nil] at hpm
      have h13' : M1.length = M2.length := by omega
      exact ⟨by rw [eqM, decide_eq_true h13', Bool.true_and, List.all_eq_true.2 (fun q hq => decide_eq_true (hok q (hpm.symm.subset hq)))], hs.to⟩
    · intro p16 L16 w16 F16 pm16 mm16 it16 hs hent
      refine R.ev rfl (E.extract rfl rfl) ?_
      refine R.done ?_
      refine X.keep [(1, _), (15, _), (17, _)] ⟨rfl, rfl, rfl, trivial⟩ ?_
      refine X.next ?_
      refine C.seq ?_
      refine C.ctrue rfl ?_
      refine C.skip ?_
      refine X.next ?_
      refine C.block ?_
      refine C.seq ?_
      refine C.region ?_
      refine R.ev rfl (E.entryC rfl (hent _ hs)) ?_
      refine R.ev rfl (E.extract rfl rfl) ?_
      refine R.ev rfl (E.extract rfl rfl) ?_
      refine R.sallocA hs Try.zr27 rfl ?_
      intro b5 w5 hs
      refine R.sallocA hs Try.zr29 rfl ?_
      intro b6 w6 hs
      first | refine R.cstoreAll hs rfl rfl Try.sz27 (by first | rfl | assumption | exact encV_len _ | exact Enc.len _ | exact len_ub (by assumption) | simp [*]) (by first | rfl | assumption | exact encV_len _ | exact Enc.len _ | exact len_ub (by assumption) | simp [*]) (by first | assumption | exact OneL.all | exact Enc.one _ | exact ub_all _ | (repeat' (first | refine List.forall_mem_cons.2 ⟨?_, ?_⟩ | exact List.forall_mem_nil _ | rfl | exact OneC.one | exact KRow.oneC' (by assumption)))) ?_ | refine R.cstore hs rfl rfl Try.sz27 (by first | rfl | assumption | exact encV_len _ | exact Enc.len _ | exact len_ub (by assumption) | simp [*]) (by simp [*]) (by first | assumption | exact OneL.all | exact Enc.one _ | exact ub_all _ | (repeat' (first | refine List.forall_mem_cons.2 ⟨?_, ?_⟩ | exact List.forall_mem_nil _ | rfl | exact OneC.one | exact KRow.oneC' (by assumption)))) ?_
      intro w5_5 hs
      try simp only [List.set_cons_zero, List.set_cons_succ] at hs
      first | refine R.cstoreAll hs rfl rfl Try.sz29 (by first | rfl | assumption | exact encV_len _ | exact Enc.len _ | exact len_ub (by assumption) | simp [*]) (by first | rfl | assumption | exact encV_len _ | exact Enc.len _ | exact len_ub (by assumption) | simp [*]) (by first | assumption | exact OneL.all | exact Enc.one _ | exact ub_all _ | (repeat' (first | refine List.forall_mem_cons.2 ⟨?_, ?_⟩ | exact List.forall_mem_nil _ | rfl | exact OneC.one | exact KRow.oneC' (by assumption)))) ?_ | refine R.cstore hs rfl rfl Try.sz29 (by first | rfl | assumption | exact encV_len _ | exact Enc.len _ | exact len_ub (by assumption) | simp [*]) (by simp [*]) (by first | assumption | exact OneL.all | exact Enc.one _ | exact ub_all _ | (repeat' (first | refine List.forall_mem_cons.2 ⟨?_, ?_⟩ | exact List.forall_mem_nil _ | rfl | exact OneC.one | exact KRow.oneC' (by assumption)))) ?_
      intro w5_6 hs
      try simp only [List.set_cons_zero, List.set_cons_succ] at hs
      refine R.done ?_
      refine X.keep [(1, _), (5, _), (6, _), (15, _)] ⟨rfl, rfl, rfl, rfl, trivial⟩ ?_
      refine X.next ?_
      refine C.seq ?_
      refine C.region ?_
      refine R.ev rfl (E.move rfl) ?_
      refine R.ev rfl (E.loadRowC rfl Try.underlying27 rfl Try.sz27 (by first | exact ⟨hs.ldA, by first | rfl | assumption | exact encV_len _ | exact Enc.len _ | exact len_ub (by assumption)⟩ | exact ⟨hs.ldP rfl, by first | rfl | assumption | exact encV_len _ | exact Enc.len _ | exact len_ub (by assumption)⟩ | exact ⟨hs.ldM rfl rfl, by first | rfl | assumption | exact encV_len _ | exact Enc.len _ | exact len_ub (by assumption)⟩ | exact ⟨hs.ldM (by assumption) (by first | rfl | assumption), by first | rfl | assumption | exact encV_len _ | exact Enc.len _ | exact len_ub (by assumption)⟩ | exact ⟨by assumption, by first | rfl | assumption | exact encV_len _ | exact Enc.len _ | exact len_ub (by assumption)⟩ | exact hs.ldp | exact At.partC (by assumption))) ?_
      refine R.ev rfl ((E.lookupDok hs rfl rfl Try.underlying86 p16.1 (by rfl))) ?_
      refine R.ev rfl (E.move rfl) ?_
      refine R.ev rfl (E.extract rfl rfl) ?_
      refine R.ev rfl (E.extract rfl rfl) ?_
      refine R.sallocA hs Try.zr29 rfl ?_
      intro b7 w7 hs
      first | refine R.cstoreAll hs rfl rfl Try.sz29 (by first | rfl | assumption | exact encV_len _ | exact Enc.len _ | exact len_ub (by assumption) | simp [*]) (by first | rfl | assumption | exact encV_len _ | exact Enc.len _ | exact len_ub (by assumption) | simp [*]) (by first | assumption | exact OneL.all | exact Enc.one _ | exact ub_all _ | (repeat' (first | refine List.forall_mem_cons.2 ⟨?_, ?_⟩ | exact List.forall_mem_nil _ | rfl | exact OneC.one | exact KRow.oneC' (by assumption)))) ?_ | refine R.cstore hs rfl rfl Try.sz29 (by first | rfl | assumption | exact encV_len _ | exact Enc.len _ | exact len_ub (by assumption) | simp [*]) (by simp [*]) (by first | assumption | exact OneL.all | exact Enc.one _ | exact ub_all _ | (repeat' (first | refine List.forall_mem_cons.2 ⟨?_, ?_⟩ | exact List.forall_mem_nil _ | rfl | exact OneC.one | exact KRow.oneC' (by assumption)))) ?_
      intro w6_7 hs
      try simp only [List.set_cons_zero, List.set_cons_succ] at hs
      refine R.ev rfl (E.assign rfl) ?_
      refine R.done ?_
      refine X.keep [(1, _), (6, _), (7, _), (8, _), (15, _)] ⟨rfl, rfl, rfl, rfl, rfl, trivial⟩ ?_
      refine X.next ?_
      refine C.seq ?_
      refine C.region ?_
      refine R.ev rfl (E.move rfl) ?_
      refine R.ev rfl (E.not rfl) ?_
      refine R.ev rfl (E.move rfl) ?_
      refine R.split 29 rfl (fun h29 => ?_) (fun h29 => ?_)
      · refine R.gskip rfl rfl rfl ?_
        refine R.gskip rfl rfl rfl ?_
        refine R.gskip rfl rfl rfl ?_
        refine R.ev rfl (E.pickT rfl rfl) ?_
        refine R.done ?_
        refine X.keep [(1, _), (15, _), (33, _)] ⟨rfl, rfl, rfl, trivial⟩ ?_
        refine X.next ?_
        refine C.ctrue rfl ?_
        refine C.seq ?_
        refine C.region ?_
        refine R.ev rfl (E.assign rfl) ?_
        refine R.done ?_
        refine X.keep [(4, _)] ⟨rfl, trivial⟩ ?_
        refine X.next ?_
        refine C.ret ?_
        refine X.blockRet ?_
        refine X.loopRet ?_
        refine X.blockRet ?_
        refine X.thenRet ?_
        refine X.ret1 rfl rfl ?_
        exact ⟨by rw [eqM_no (q := p16) (hpm.subset (List.mem_append_right _ mm16)) (by intro e; simp_all)], hs.to⟩
      · refine R.gyes rfl rfl ?_
        refine R.ev rfl (E.loadRowC rfl Try.underlying29 rfl Try.sz29 (by first | exact ⟨hs.ldA, by first | rfl | assumption | exact encV_len _ | exact Enc.len _ | exact len_ub (by assumption)⟩ | exact ⟨hs.ldP rfl, by first | rfl | assumption | exact encV_len _ | exact Enc.len _ | exact len_ub (by assumption)⟩ | exact ⟨hs.ldM rfl rfl, by first | rfl | assumption | exact encV_len _ | exact Enc.len _ | exact len_ub (by assumption)⟩ | exact ⟨hs.ldM (by assumption) (by first | rfl | assumption), by first | rfl | assumption | exact encV_len _ | exact Enc.len _ | exact len_ub (by assumption)⟩ | exact ⟨by assumption, by first | rfl | assumption | exact encV_len _ | exact Enc.len _ | exact len_ub (by assumption)⟩ | exact hs.ldp | exact At.partC (by assumption))) ?_
        refine R.gyes rfl rfl ?_
        refine R.ev rfl (E.loadRowC rfl Try.underlying29 rfl Try.sz29 (by first | exact ⟨hs.ldA, by first | rfl | assumption | exact encV_len _ | exact Enc.len _ | exact len_ub (by assumption)⟩ | exact ⟨hs.ldP rfl, by first | rfl | assumption | exact encV_len _ | exact Enc.len _ | exact len_ub (by assumption)⟩ | exact ⟨hs.ldM rfl rfl, by first | rfl | assumption | exact encV_len _ | exact Enc.len _ | exact len_ub (by assumption)⟩ | exact ⟨hs.ldM (by assumption) (by first | rfl | assumption), by first | rfl | assumption | exact encV_len _ | exact Enc.len _ | exact len_ub (by assumption)⟩ | exact ⟨by assumption, by first | rfl | assumption | exact encV_len _ | exact Enc.len _ | exact len_ub (by assumption)⟩ | exact hs.ldp | exact At.partC (by assumption))) ?_
        refine R.gyes rfl rfl ?_
        refine R.ev rfl ((E.neqAgg 10 rfl rfl Try.lv29 rfl Try.underlying29 rfl Try.gd29 (encH_fits _ (Enc.len _)) (encH_fits _ (Enc.len _))).isB (c := decide (p16.2 ≠ (lkM M2 p16.1).getD hz)) (by rw [encH_eq (Enc.len _) (Enc.len _)]; simp)) ?_
        refine R.ev rfl (E.pickF rfl rfl) ?_
        refine R.done ?_
        refine X.keep [(1, _), (15, _), (33, _)] ⟨rfl, rfl, rfl, trivial⟩ ?_
        refine X.next ?_
        refine C.cbool rfl (fun h33 => ?_) (fun h33 => ?_)
        · refine C.seq ?_
          refine C.region ?_
          refine R.ev rfl (E.assign rfl) ?_
          refine R.done ?_
          refine X.keep [(4, _)] ⟨rfl, trivial⟩ ?_
          refine X.next ?_
          refine C.ret ?_
          refine X.blockRet ?_
          refine X.loopRet ?_
          refine X.blockRet ?_
          refine X.thenRet ?_
          refine X.ret1 rfl rfl ?_
          exact ⟨by rw [eqM_no (q := p16) (hpm.subset (List.mem_append_right _ mm16)) (by intro e; simp_all)], hs.to⟩
        · refine C.skip ?_
          refine X.blockNormal ?_
          have hl : lkM M2 p16.1 = some p16.2 := by
            cases hl : lkM M2 p16.1 with
            | none => simp [hl] at h29
            | some y => simp [hl] at h33; simp [h33]
          have hok2 : ∀ q ∈ Ls ++ [p16], lkM M2 q.1 = some q.2 := by
            intro q hq
            rcases List.mem_append.1 hq with hq | hq
            · exact hok q hq
            · simp at hq; subst hq; exact hl
          exact X.again (L16, Ls ++ [p16], F16) ⟨rfl, rfl, trivial⟩ ⟨it16, copy_step hpm pm16, hok2, hs.to⟩ (by show L16.length < Lr.length; rw [pm16.length_eq]; simp)
def eqHi (s s2 : Hi) : Bool := decide (s.cut = s2.cut) && eqM s.M s2.M
theorem equal_any {q : Nat} {s2 : Hi} (hs : Sat K w Hs) [hw : HiIn p s Hs] [hw2 : HiIn q s2 Hs] : Ret Try.prog 32 #[ptr p, ptr q] w fun r w' => r = .bool (eqHi s s2) ∧ Sat K w' Hs := by
  obtain ⟨m, G, hin, hm, hH⟩ := hw.ex
  obtain ⟨b, es, clock, rfl, rfl, hrep⟩ := hm.ex
  have hib : InH b (.map es clock) Hs := ⟨hH.sub _ (by simp)⟩
  have hmi : MapIn ekI evH (.map (some b)) s.M Hs := ⟨⟨_, hm, hH⟩⟩
  obtain ⟨m2, G2, hin2, hm2, hH2⟩ := hw2.ex
  have hmi2 : MapIn ekI evH m2 s2.M Hs := ⟨⟨_, hm2, hH2⟩⟩
  refine Ret.enter (n := 37) (args := [ptr p, ptr q]) Try.func32 rfl rfl ?_
  refine C.keep [(0, _), (1, _)] ⟨rfl, rfl, trivial⟩ ?_
  refine C.seq ?_
  refine C.region ?_
  refine R.ev rfl (E.assign rfl) ?_
  refine R.done ?_
  refine X.keep [(0, _), (1, _)] ⟨rfl, rfl, trivial⟩ ?_
  refine X.next ?_
  refine C.seq ?_
  refine C.seq ?_
  refine C.region ?_
  refine R.ev rfl (E.move rfl) ?_
  refine R.ev rfl (E.eqlNilF rfl rfl Try.underlying35) ?_
  refine R.ev rfl (E.move rfl) ?_
  refine R.gyes rfl rfl ?_
  refine R.ev rfl (E.move rfl) ?_
  refine R.gyes rfl rfl ?_
  refine R.ev rfl (E.eqlNilF rfl rfl Try.underlying35) ?_
  refine R.ev rfl (E.pickF rfl rfl) ?_
  refine R.done ?_
  refine X.keep [(0, _), (1, _), (10, _)] ⟨rfl, rfl, rfl, trivial⟩ ?_
  refine X.next ?_
  refine C.cfalse rfl ?_
  refine C.skip ?_
  refine X.next ?_
  refine C.seq ?_
  refine C.drawn (SatS hs) ([3, 7, 13, 17], [0, 1, 2, 4, 5, 6, 8, 9, 10, 11, 12, 14, 15, 16, 19, 20]) (by kernel_rfl) ?_
  have hs := hs.drew
  refine D.evP 0 rfl (by kernel_rfl) rfl (fun _ => hs.to) (fun _ => E.move rfl) ?_
  refine D.evP 1 rfl (by kernel_rfl) rfl (fun _ => hs.to) (fun _ => E.nilCheck rfl) ?_
  first | refine D.evP 2 rfl (by kernel_rfl) rfl (fun _ => hs.to) (fun _ => E.fieldAddr0 1 rfl Try.underlying88 rfl Try.sz3 rfl) ?_ | refine D.evP 2 rfl (by kernel_rfl) rfl (fun _ => hs.to) (fun _ => E.fieldAddrN 1 rfl Try.underlying88 rfl Try.sz3 rfl) ?_
  refine D.evP 4 rfl (by kernel_rfl) rfl (fun _ => hs.to) (fun _ => E.move rfl) ?_
  refine D.evP 5 rfl (by kernel_rfl) rfl (fun _ => hs.to) (fun _ => E.nilCheck rfl) ?_
  first | refine D.evP 6 rfl (by kernel_rfl) rfl (fun _ => hs.to) (fun _ => E.fieldAddr0 1 rfl Try.underlying88 rfl Try.sz3 rfl) ?_ | refine D.evP 6 rfl (by kernel_rfl) rfl (fun _ => hs.to) (fun _ => E.fieldAddrN 1 rfl Try.underlying88 rfl Try.sz3 rfl) ?_
  refine D.ev 3 rfl (by kernel_rfl) rfl hs.to (fun _ hS => E.load1 rfl Try.underlying3 rfl (by first | exact hS.ldc | exact hS.ld rfl | exact hS.ld (by assumption) | exact by assumption | exact At.cellC (by assumption) | exact At.cellC ((by assumption : ∀ w', Sat _ w' _ → At w' _ _ _) _ hS) | exact (by assumption : ∀ w', Sat _ w' _ → World.cell? w' _ = some _) _ hS)) ?_
  refine D.ev 7 rfl (by kernel_rfl) rfl hs.to (fun _ hS => E.load1 rfl Try.underlying3 rfl (by first | exact hS.ldc | exact hS.ld rfl | exact hS.ld (by assumption) | exact by assumption | exact At.cellC (by assumption) | exact At.cellC ((by assumption : ∀ w', Sat _ w' _ → At w' _ _ _) _ hS) | exact (by assumption : ∀ w', Sat _ w' _ → World.cell? w' _ = some _) _ hS)) ?_
  refine D.evP 8 rfl (by kernel_rfl) rfl (fun _ => hs.to) (fun _ => E.eql rfl rfl) ?_
  refine D.evP 9 rfl (by kernel_rfl) rfl (fun _ => hs.to) (fun _ => E.move rfl) ?_
  refine D.split 26 rfl (fun h26 => ?_) (fun h26 => ?_)
  · refine D.evPG 10 rfl (by kernel_rfl) rfl rfl rfl (fun _ => hs.to) (fun _ => E.move rfl) ?_
    refine D.evPG 11 rfl (by kernel_rfl) rfl rfl rfl (fun _ => hs.to) (fun _ => E.nilCheck rfl) ?_
    first | refine D.evPG 12 rfl (by kernel_rfl) rfl rfl rfl (fun _ => hs.to) (fun _ => E.fieldAddr0 0 rfl Try.underlying88 rfl Try.sz86 rfl) ?_ | refine D.evPG 12 rfl (by kernel_rfl) rfl rfl rfl (fun _ => hs.to) (fun _ => E.fieldAddrN 0 rfl Try.underlying88 rfl Try.sz86 rfl) ?_
    refine D.evPG 14 rfl (by kernel_rfl) rfl rfl rfl (fun _ => hs.to) (fun _ => E.move rfl) ?_
    refine D.evPG 15 rfl (by kernel_rfl) rfl rfl rfl (fun _ => hs.to) (fun _ => E.nilCheck rfl) ?_
    first | refine D.evPG 16 rfl (by kernel_rfl) rfl rfl rfl (fun _ => hs.to) (fun _ => E.fieldAddr0 0 rfl Try.underlying88 rfl Try.sz86 rfl) ?_ | refine D.evPG 16 rfl (by kernel_rfl) rfl rfl rfl (fun _ => hs.to) (fun _ => E.fieldAddrN 0 rfl Try.underlying88 rfl Try.sz86 rfl) ?_
    refine D.evG 13 rfl (by kernel_rfl) rfl rfl rfl hs.to (fun _ hS => E.load1 rfl Try.underlying86 rfl (by first | exact hS.ldc | exact hS.ld rfl | exact hS.ld (by assumption) | exact by assumption | exact At.cellC (by assumption) | exact At.cellC ((by assumption : ∀ w', Sat _ w' _ → At w' _ _ _) _ hS) | exact (by assumption : ∀ w', Sat _ w' _ → World.cell? w' _ = some _) _ hS)) ?_
    refine D.evG 17 rfl (by kernel_rfl) rfl rfl rfl hs.to (fun _ hS => E.load1 rfl Try.underlying86 rfl (by first | exact hS.ldc | exact hS.ld rfl | exact hS.ld (by assumption) | exact by assumption | exact At.cellC (by assumption) | exact At.cellC ((by assumption : ∀ w', Sat _ w' _ → At w' _ _ _) _ hS) | exact (by assumption : ∀ w', Sat _ w' _ → World.cell? w' _ = some _) _ hS)) ?_
    refine D.act 18 rfl (by kernel_rfl) ?_
    refine R.gyes rfl rfl ?_
    refine R.call ⟨_, _, Try.func52, rfl, by kernel_rfl⟩ rfl rfl (equalM_any hs hrep) ?_
    rintro _ w51 ⟨rfl, hs⟩
    refine D.backT (by kernel_rfl) ?_
    refine D.evP 19 rfl (by kernel_rfl) rfl (np (by kernel_rfl)) (fun _ => E.pickT rfl rfl) ?_
    refine D.evP 20 rfl (by kernel_rfl) rfl (np (by kernel_rfl)) (fun _ => E.assign rfl) ?_
    refine D.done rfl (by kernel_rfl) ?_
    refine X.keep [(4, _)] ⟨rfl, trivial⟩ ?_
    refine X.next ?_
    refine C.ret ?_
    refine X.ret1 rfl rfl ?_
    exact ⟨by simp_all [eqHi], hs.to⟩
  · refine D.skipP 10 rfl (by kernel_rfl) rfl rfl rfl (fun _ => hs.to) ?_
    refine D.skipP 11 rfl (by kernel_rfl) rfl rfl rfl (fun _ => hs.to) ?_
    refine D.skipP 12 rfl (by kernel_rfl) rfl rfl rfl (fun _ => hs.to) ?_
    refine D.skipP 14 rfl (by kernel_rfl) rfl rfl rfl (fun _ => hs.to) ?_
    refine D.skipP 15 rfl (by kernel_rfl) rfl rfl rfl (fun _ => hs.to) ?_
    refine D.skipP 16 rfl (by kernel_rfl) rfl rfl rfl (fun _ => hs.to) ?_
    refine D.skip 13 rfl (by kernel_rfl) rfl rfl rfl hs.to ?_
    refine D.skip 17 rfl (by kernel_rfl) rfl rfl rfl hs.to ?_
    refine D.act 18 rfl (by kernel_rfl) ?_
    refine R.gskip rfl rfl rfl ?_
    refine D.backT (by kernel_rfl) ?_
    refine D.evP 19 rfl (by kernel_rfl) rfl (np (by kernel_rfl)) (fun _ => E.pickF rfl rfl) ?_
    refine D.evP 20 rfl (by kernel_rfl) rfl (np (by kernel_rfl)) (fun _ => E.assign rfl) ?_
    refine D.done rfl (by kernel_rfl) ?_
    refine X.keep [(4, _)] ⟨rfl, trivial⟩ ?_
    refine X.next ?_
    refine C.ret ?_
    refine X.ret1 rfl rfl ?_
    exact ⟨by simp_all [eqHi], hs.to⟩
theorem equalNil_any (hs : Sat K w Hs) : Ret Try.prog 32 #[ptr p, .pointer none] w fun r w' => r = .bool false ∧ Sat K w' Hs := by
  refine Ret.enter (n := 37) (args := [ptr p, .pointer none]) Try.func32 rfl rfl ?_
  refine C.keep [(0, _), (1, _)] ⟨rfl, rfl, trivial⟩ ?_
  refine C.seq ?_
  refine C.region ?_
  refine R.ev rfl (E.assign rfl) ?_
  refine R.done ?_
  refine X.keep [(0, _), (1, _)] ⟨rfl, rfl, trivial⟩ ?_
  refine X.next ?_
  refine C.seq ?_
  refine C.seq ?_
  refine C.region ?_
  refine R.ev rfl (E.move rfl) ?_
  refine R.ev rfl (E.eqlNilF rfl rfl Try.underlying35) ?_
  refine R.ev rfl (E.move rfl) ?_
  refine R.gyes rfl rfl ?_
  refine R.ev rfl (E.move rfl) ?_
  refine R.gyes rfl rfl ?_
  refine R.ev rfl (E.eqlNilT rfl rfl Try.underlying35) ?_
  refine R.ev rfl (E.pickF rfl rfl) ?_
  refine R.done ?_
  refine X.keep [(0, _), (1, _), (10, _)] ⟨rfl, rfl, rfl, trivial⟩ ?_
  refine X.next ?_
  refine C.ctrue rfl ?_
  refine C.seq ?_
  refine C.region ?_
  refine R.ev rfl (E.move rfl) ?_
  refine R.ev rfl (E.eqlNilF rfl rfl Try.underlying35) ?_
  refine R.ev rfl (E.move rfl) ?_
  refine R.gskip rfl rfl rfl ?_
  refine R.gskip rfl rfl rfl ?_
  refine R.ev rfl (E.pickF rfl rfl) ?_
  refine R.ev rfl (E.assign rfl) ?_
  refine R.done ?_
  refine X.keep [(4, _)] ⟨rfl, trivial⟩ ?_
  refine X.next ?_
  refine C.ret ?_
  refine X.thenRet ?_
  refine X.ret1 rfl rfl ?_
  exact ⟨rfl, hs.to⟩
theorem Ord.eqM {s2 : Hi} {L2 : List HEnt} (h : Ord s L) (h2 : Ord s2 L2) : Proofs.Ytobhhnfckhbeeaa.eqM s.M s2.M = decide (L = L2) := by
  unfold Proofs.Ytobhhnfckhbeeaa.eqM
  rw [Bool.eq_iff_iff, Bool.and_eq_true, decide_eq_true_eq, decide_eq_true_eq, List.all_eq_true]
  have l1 := h.len
  have l2 := h2.len
  constructor
  · rintro ⟨he, ha⟩
    have hsub : ∀ x ∈ L, x ∈ L2 := fun x hx => by
      have hm := (h.mem x).1 hx
      obtain ⟨q, hq, rfl⟩ := List.mem_map.1 hm
      have h3 := of_decide_eq_true (ha q hq)
      rw [h.ok.key q hq] at h3
      exact (h2.lk _).2 h3
    refine ss_ext ltH_swo h.ss h2.ss fun x => ⟨hsub x, fun hx => ?_⟩
    by_cases hxL : x ∈ L
    · exact hxL
    · have h4 : (x :: L).Nodup := List.nodup_cons.2 ⟨hxL, h.ss.nodup ltH_swo⟩
      have := nodup_len h4 (m := L2) (fun y hy => by
        rcases List.mem_cons.1 hy with rfl | hy
        · exact hx
        · exact hsub y hy)
      simp at this; omega
  · rintro rfl
    refine ⟨by omega, fun q hq => decide_eq_true ?_⟩
    have h3 : q.2 ∈ L := (h.mem _).2 (List.mem_map.2 ⟨q, hq, rfl⟩)
    rw [h.ok.key q hq]
    exact (h2.lk _).1 h3
theorem Ord.eqHi {s2 : Hi} {L2 : List HEnt} (h : Ord s L) (h2 : Ord s2 L2) : Proofs.Ytobhhnfckhbeeaa.eqHi s s2 = (decide (s.cut = s2.cut) && decide (L = L2)) := by
  unfold Proofs.Ytobhhnfckhbeeaa.eqHi; rw [h.eqM h2]
end Go.Proofs.Ytobhhnfckhbeeaa
