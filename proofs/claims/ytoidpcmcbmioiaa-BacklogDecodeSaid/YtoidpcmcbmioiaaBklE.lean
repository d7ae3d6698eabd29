/-
  package backlog: maps.Equal, Equal; the reference's Same.
-/
import Derived.Test.YtoidpcmcbmioiaaBklC
namespace Go.Proofs.Ytoidpcmcbmioiaa
open Go.Eng Go.RowKit

variable {K : Kn} {Hs Rs : List Hl} {F : Hl} {w : World} {p : Nat} {s : Bk} {v : Value}
def eqM (M1 M2 : OMap) : Bool := decide (M1.length = M2.length) && M1.all (fun q => decide (lkM M2 q.1 = some q.2))
theorem eqM_no {M1 M2 : OMap} {q : Vec 32 × Bool} (hm : q ∈ M1) (h : lkM M2 q.1 ≠ some q.2) : eqM M1 M2 = false := by
  unfold eqM
  have : M1.all (fun q => decide (lkM M2 q.1 = some q.2)) = false := by
    rw [List.all_eq_false]; exact ⟨q, hm, by simpa using h⟩
  rw [this, Bool.and_false]
theorem equalM_any {m2 : Value} {b : Nat} {M1 M2 : OMap} {es : Array MapEntry} {clock : Nat} (hs : Sat K w Hs) (hr : MapRep ekI Value.bool M1 es clock) [hb : InH b (.map es clock) Hs] [h1 : MapIn ekI Value.bool (.map (some b)) M1 Hs] [h2 : MapIn ekI Value.bool m2 M2 Hs] :
    Ret Try.prog 71 #[.map (some b), m2] w fun r w' => r = .bool (eqM M1 M2) ∧ Sat K w' Hs := by
  refine Ret.enter (n := 34) (args := [.map (some b), m2]) Try.func71 rfl rfl ?_
  refine C.keep [(0, _), (1, _)] ⟨rfl, rfl, trivial⟩ ?_
  refine C.seq ?_
  refine C.region ?_
  refine R.ev rfl (E.assign rfl) ?_
  refine R.done ?_
  refine X.keep [(0, _), (1, _)] ⟨rfl, rfl, trivial⟩ ?_
  refine X.next ?_
  refine C.seq ?_
  refine C.seq ?_
  refine C.region ?_
  refine R.ev rfl (E.move rfl) ?_
  refine R.ev rfl (E.lenM hs rfl Try.underlying82) ?_
  refine R.ev rfl (E.move rfl) ?_
  refine R.ev rfl (E.lenM hs rfl Try.underlying82) ?_
  refine R.ev rfl (E.neq rfl rfl) ?_
  refine R.done ?_
  refine X.keep [(0, _), (1, _), (13, _)] ⟨rfl, rfl, rfl, trivial⟩ ?_
  refine X.next ?_
  refine C.cdec rfl (fun h13 => ?_) (fun h13 => ?_)
  · refine C.seq ?_
    refine C.region ?_
    refine R.ev rfl (E.assign rfl) ?_
    refine R.done ?_
    refine X.keep [(4, _)] ⟨rfl, trivial⟩ ?_
    refine X.next ?_
    refine C.ret ?_
    refine X.thenRet ?_
    refine X.ret1 rfl rfl ?_
    exact ⟨by rw [eqM, decide_eq_false (by omega), Bool.false_and], hs.to⟩
  · refine C.skip ?_
    refine X.next ?_
    refine C.seq ?_
    refine C.seq ?_
    refine C.region ?_
    refine R.ev rfl (E.move rfl) ?_
    refine R.crange hs rfl Try.underlying82 (hr) rfl ?_
    intro r15 w15 F15 it15 hs
    refine R.done ?_
    refine X.keep [(1, _), (15, _)] ⟨rfl, rfl, trivial⟩ ?_
    refine X.next ?_
    refine C.block ?_
    refine C.loop (T := OMap × OMap × Hl) [(1, _), (15, _)] (fun _ => []) (fun (Lr, Ls, Fi) w' => ItP ekI Value.bool r15 b es clock Lr Fi ∧ (Ls ++ Lr).Perm M1 ∧ (∀ q ∈ Ls, lkM M2 q.1 = some q.2) ∧ Sat K w' (Fi :: Hs)) (fun (Lr, _) => Lr.length) ((M1, [], F15)) ⟨rfl, rfl, trivial⟩ ⟨it15, by simp, by simp, hs⟩ ?_
    rintro ⟨Lr, Ls, Fi⟩ w1 ⟨hit, hpm, hok, hs⟩
    refine C.keep [(1, _), (15, _)] ⟨rfl, rfl, trivial⟩ ?_
    refine C.seq ?_
    refine C.region ?_
    refine R.cnext hs rfl (hr) (hit) rfl ?_ ?_
    · intro hover
      refine R.ev rfl (E.extract rfl rfl) ?_
      refine R.done ?_
      refine X.keep [(1, _), (15, _), (17, _)] ⟨rfl, rfl, rfl, trivial⟩ ?_
      refine X.next ?_
      refine C.seq ?_
      refine C.cfalse rfl ?_
      refine C.exit ?_
      refine X.thenExit ?_
      refine X.loopExit ?_
      refine X.blockExit ?_
      refine X.next ?_
      refine C.seq ?_
      refine C.region ?_
      refine R.ev rfl (E.assign rfl) ?_
      refine R.done ?_
      refine X.keep [(4, _)] ⟨rfl, trivial⟩ ?_
      refine X.next ?_
      refine C.ret ?_
      refine X.ret1 rfl rfl ?_
      rw [hover, List.append_nil] at hpm
      have h13' : M1.length = M2.length := by omega
      exact ⟨by rw [eqM, decide_eq_true h13', Bool.true_and, List.all_eq_true.2 (fun q hq => decide_eq_true (hok q (hpm.symm.subset hq)))], hs.to⟩
    · intro p16 L16 w16 F16 pm16 mm16 it16 hs hent
      refine R.ev rfl (E.extract rfl rfl) ?_
      refine R.done ?_
      refine X.keep [(1, _), (15, _), (17, _)] ⟨rfl, rfl, rfl, trivial⟩ ?_
      refine X.next ?_
      refine C.seq ?_
      refine C.ctrue rfl ?_
      refine C.skip ?_
      refine X.next ?_
      refine C.block ?_
      refine C.seq ?_
      refine C.region ?_
      refine R.ev rfl (E.entryC rfl (hent _ hs)) ?_
      refine R.ev rfl (E.extract rfl rfl) ?_
      refine R.ev rfl (E.extract rfl rfl) ?_
      refine R.sallocA hs Try.zr30 rfl ?_
      intro b5 w5 hs
      first | refine R.cstoreAll hs rfl rfl Try.sz30 (by first | rfl | assumption | exact encV_len _ | exact Enc.len _ | exact len_ub (by assumption) | simp [*]) (by first | rfl | assumption | exact encV_len _ | exact Enc.len _ | exact len_ub (by assumption) | simp [*]) (by first | assumption | exact OneL.all | exact Enc.one _ | exact ub_all _ | (repeat' (first | refine List.forall_mem_cons.2 ⟨?_, ?_⟩ | exact List.forall_mem_nil _ | rfl | exact OneC.one | exact KRow.oneC' (by assumption)))) ?_ | refine R.cstore hs rfl rfl Try.sz30 (by first | rfl | assumption | exact encV_len _ | exact Enc.len _ | exact len_ub (by assumption) | simp [*]) (by simp [*]) (by first | assumption | exact OneL.all | exact Enc.one _ | exact ub_all _ | (repeat' (first | refine List.forall_mem_cons.2 ⟨?_, ?_⟩ | exact List.forall_mem_nil _ | rfl | exact OneC.one | exact KRow.oneC' (by assumption)))) ?_
      intro w5_4 hs
      try simp only [List.set_cons_zero, List.set_cons_succ] at hs
      refine R.ev rfl (E.assign rfl) ?_
      refine R.done ?_
      refine X.keep [(1, _), (5, _), (6, _), (15, _)] ⟨rfl, rfl, rfl, rfl, trivial⟩ ?_
      refine X.next ?_
      refine C.seq ?_
      refine C.region ?_
      refine R.ev rfl (E.move rfl) ?_
      refine R.ev rfl (E.loadRowC rfl Try.underlying30 rfl Try.sz30 (by first | exact ⟨hs.ldA, by first | rfl | assumption | exact encV_len _ | exact Enc.len _ | exact len_ub (by assumption)⟩ | exact ⟨hs.ldP rfl, by first | rfl | assumption | exact encV_len _ | exact Enc.len _ | exact len_ub (by assumption)⟩ | exact ⟨hs.ldM rfl rfl, by first | rfl | assumption | exact encV_len _ | exact Enc.len _ | exact len_ub (by assumption)⟩ | exact ⟨hs.ldM (by assumption) (by first | rfl | assumption), by first | rfl | assumption | exact encV_len _ | exact Enc.len _ | exact len_ub (by assumption)⟩ | exact ⟨by assumption, by first | rfl | assumption | exact encV_len _ | exact Enc.len _ | exact len_ub (by assumption)⟩ | exact hs.ldp | exact At.partC (by assumption))) ?_
      refine R.ev rfl ((E.lookupDok hs rfl rfl Try.underlying82 p16.1 (by rfl))) ?_
      refine R.ev rfl (E.move rfl) ?_
      refine R.ev rfl (E.extract rfl rfl) ?_
      refine R.ev rfl (E.extract rfl rfl) ?_
      refine R.ev rfl (E.assign rfl) ?_
      refine R.ev rfl (E.assign rfl) ?_
      refine R.done ?_
      refine X.keep [(1, _), (6, _), (7, _), (8, _), (15, _)] ⟨rfl, rfl, rfl, rfl, rfl, trivial⟩ ?_
      refine X.next ?_
      refine C.seq ?_
      refine C.region ?_
      refine R.ev rfl (E.move rfl) ?_
      refine R.ev rfl (E.not rfl) ?_
      refine R.ev rfl (E.move rfl) ?_
      refine R.split 29 rfl (fun h29 => ?_) (fun h29 => ?_)
      · refine R.gskip rfl rfl rfl ?_
        refine R.gskip rfl rfl rfl ?_
        refine R.gskip rfl rfl rfl ?_
        refine R.ev rfl (E.pickT rfl rfl) ?_
        refine R.done ?_
        refine X.keep [(1, _), (15, _), (33, _)] ⟨rfl, rfl, rfl, trivial⟩ ?_
        refine X.next ?_
        refine C.ctrue rfl ?_
        refine C.seq ?_
        refine C.region ?_
        refine R.ev rfl (E.assign rfl) ?_
        refine R.done ?_
        refine X.keep [(4, _)] ⟨rfl, trivial⟩ ?_
        refine X.next ?_
        refine C.ret ?_
        refine X.blockRet ?_
        refine X.loopRet ?_
        refine X.blockRet ?_
        refine X.thenRet ?_
        refine X.ret1 rfl rfl ?_
        exact ⟨by rw [eqM_no (q := p16) (hpm.subset (List.mem_append_right _ mm16)) (by intro e; simp_all)], hs.to⟩
      · refine R.gyes rfl rfl ?_
        refine R.ev rfl (E.move rfl) ?_
        refine R.gyes rfl rfl ?_
        refine R.ev rfl (E.move rfl) ?_
        refine R.gyes rfl rfl ?_
        refine R.ev rfl (E.neqB rfl rfl Try.underlying4) ?_
        refine R.ev rfl (E.pickF rfl rfl) ?_
        refine R.done ?_
        refine X.keep [(1, _), (15, _), (33, _)] ⟨rfl, rfl, rfl, trivial⟩ ?_
        refine X.next ?_
        refine C.cbool rfl (fun h33 => ?_) (fun h33 => ?_)
        · refine C.seq ?_
          refine C.region ?_
          refine R.ev rfl (E.assign rfl) ?_
          refine R.done ?_
          refine X.keep [(4, _)] ⟨rfl, trivial⟩ ?_
          refine X.next ?_
          refine C.ret ?_
          refine X.blockRet ?_
          refine X.loopRet ?_
          refine X.blockRet ?_
          refine X.thenRet ?_
          refine X.ret1 rfl rfl ?_
          exact ⟨by rw [eqM_no (q := p16) (hpm.subset (List.mem_append_right _ mm16)) (by intro e; simp_all)], hs.to⟩
        · refine C.skip ?_
          refine X.blockNormal ?_
          have hl : lkM M2 p16.1 = some p16.2 := by
            cases hl : lkM M2 p16.1 with
            | none => simp [hl] at h29
            | some y => simp [hl] at h33; simp [h33]
          have hok2 : ∀ q ∈ Ls ++ [p16], lkM M2 q.1 = some q.2 := by
            intro q hq
            rcases List.mem_append.1 hq with hq | hq
            · exact hok q hq
            · simp at hq; subst hq; exact hl
          exact X.again (L16, Ls ++ [p16], F16) ⟨rfl, rfl, trivial⟩ ⟨it16, (copy_step hr.nd hpm pm16).2, hok2, hs.to⟩ (by show L16.length < Lr.length; rw [pm16.length_eq]; simp)
def eqB (s s2 : Bk) : Bool := decide (s.cap = s2.cap) && decide (s.wait = s2.wait) && decide (s.inc = s2.inc) && decide (s.L = s2.L) && eqM s.M s2.M
theorem equal_any {q : Nat} {s2 : Bk} (hs : Sat K w Hs) [hw : BkIn p s Hs] [hw2 : BkIn q s2 Hs] (hL : s.L.length ≤ 1000000) : Ret Try.prog 39 #[ptr p, ptr q] w fun r w' => r = .bool (eqB s s2) ∧ Sat K w' Hs := by
  obtain ⟨v, m, G, H, hin, hr, hG, hm, hH⟩ := hw.ex
  obtain ⟨ad, cap, rfl, hc, hcm, had⟩ := hr.val
  obtain ⟨b, es, clock, rfl, rfl, hrep⟩ := hm.ex
  have hib : InH b (.map es clock) Hs := ⟨hH.sub _ (by simp)⟩
  have hmi : MapIn ekI Value.bool (.map (some b)) s.M Hs := ⟨⟨_, hm, hH⟩⟩
  obtain ⟨v2, m2, G2, H2, hin2, hr2, hG2, hm2, hH2⟩ := hw2.ex
  obtain ⟨ad2, cap2, rfl, hc2, hcm2, had2⟩ := hr2.val
  have hmi2 : MapIn ekI Value.bool m2 s2.M Hs := ⟨⟨_, hm2, hH2⟩⟩
  refine Ret.enter (n := 70) (args := [ptr p, ptr q]) Try.func39 rfl rfl ?_
  refine C.keep [(0, _), (1, _)] ⟨rfl, rfl, trivial⟩ ?_
  refine C.seq ?_
  refine C.region ?_
  refine R.ev rfl (E.assign rfl) ?_
  refine R.done ?_
  refine X.keep [(0, _), (1, _)] ⟨rfl, rfl, trivial⟩ ?_
  refine X.next ?_
  refine C.seq ?_
  refine C.seq ?_
  refine C.region ?_
  refine R.ev rfl (E.move rfl) ?_
  refine R.ev rfl (E.eqlNilF rfl rfl Try.underlying25) ?_
  refine R.ev rfl (E.move rfl) ?_
  refine R.gyes rfl rfl ?_
  refine R.ev rfl (E.move rfl) ?_
  refine R.gyes rfl rfl ?_
  refine R.ev rfl (E.eqlNilF rfl rfl Try.underlying25) ?_
  refine R.ev rfl (E.pickF rfl rfl) ?_
  refine R.done ?_
  refine X.keep [(0, _), (1, _), (10, _)] ⟨rfl, rfl, rfl, trivial⟩ ?_
  refine X.next ?_
  refine C.cfalse rfl ?_
  refine C.skip ?_
  refine X.next ?_
  refine C.seq ?_
  refine C.drawn (SatS hs) ([3, 7, 13, 17, 24, 28, 35, 39, 46, 50], [0, 1, 2, 4, 5, 6, 8, 9, 10, 11, 12, 14, 15, 16, 18, 19, 20, 21, 22, 23, 25, 26, 27, 29, 30, 31, 32, 33, 34, 36, 37, 38, 41, 42, 43, 44, 45, 47, 48, 49, 52, 53]) (by kernel_rfl) ?_
  have hs := hs.drew
  refine D.evP 0 rfl (by kernel_rfl) rfl (fun _ => hs.to) (fun _ => E.move rfl) ?_
  refine D.evP 1 rfl (by kernel_rfl) rfl (fun _ => hs.to) (fun _ => E.nilCheck rfl) ?_
  first | refine D.evP 2 rfl (by kernel_rfl) rfl (fun _ => hs.to) (fun _ => E.fieldAddr0 0 rfl Try.underlying84 rfl Try.sz3 rfl) ?_ | refine D.evP 2 rfl (by kernel_rfl) rfl (fun _ => hs.to) (fun _ => E.fieldAddrN 0 rfl Try.underlying84 rfl Try.sz3 rfl) ?_
  refine D.evP 4 rfl (by kernel_rfl) rfl (fun _ => hs.to) (fun _ => E.move rfl) ?_
  refine D.evP 5 rfl (by kernel_rfl) rfl (fun _ => hs.to) (fun _ => E.nilCheck rfl) ?_
  first | refine D.evP 6 rfl (by kernel_rfl) rfl (fun _ => hs.to) (fun _ => E.fieldAddr0 0 rfl Try.underlying84 rfl Try.sz3 rfl) ?_ | refine D.evP 6 rfl (by kernel_rfl) rfl (fun _ => hs.to) (fun _ => E.fieldAddrN 0 rfl Try.underlying84 rfl Try.sz3 rfl) ?_
  refine D.ev 3 rfl (by kernel_rfl) rfl hs.to (fun _ hS => E.load1 rfl Try.underlying3 rfl (by first | exact hS.ldc | exact hS.ld rfl | exact hS.ld (by assumption) | exact by assumption | exact At.cellC (by assumption) | exact At.cellC ((by assumption : ∀ w', Sat _ w' _ → At w' _ _ _) _ hS) | exact (by assumption : ∀ w', Sat _ w' _ → World.cell? w' _ = some _) _ hS)) ?_
  refine D.ev 7 rfl (by kernel_rfl) rfl hs.to (fun _ hS => E.load1 rfl Try.underlying3 rfl (by first | exact hS.ldc | exact hS.ld rfl | exact hS.ld (by assumption) | exact by assumption | exact At.cellC (by assumption) | exact At.cellC ((by assumption : ∀ w', Sat _ w' _ → At w' _ _ _) _ hS) | exact (by assumption : ∀ w', Sat _ w' _ → World.cell? w' _ = some _) _ hS)) ?_
  refine D.evP 8 rfl (by kernel_rfl) rfl (fun _ => hs.to) (fun _ => E.eql rfl rfl) ?_
  refine D.evP 9 rfl (by kernel_rfl) rfl (fun _ => hs.to) (fun _ => E.move rfl) ?_
  refine D.split 26 rfl (fun h26 => ?_) (fun h26 => ?_)
  · refine D.evPG 10 rfl (by kernel_rfl) rfl rfl rfl (fun _ => hs.to) (fun _ => E.move rfl) ?_
    refine D.evPG 11 rfl (by kernel_rfl) rfl rfl rfl (fun _ => hs.to) (fun _ => E.nilCheck rfl) ?_
    first | refine D.evPG 12 rfl (by kernel_rfl) rfl rfl rfl (fun _ => hs.to) (fun _ => E.fieldAddr0 1 rfl Try.underlying84 rfl Try.sz3 rfl) ?_ | refine D.evPG 12 rfl (by kernel_rfl) rfl rfl rfl (fun _ => hs.to) (fun _ => E.fieldAddrN 1 rfl Try.underlying84 rfl Try.sz3 rfl) ?_
    refine D.evPG 14 rfl (by kernel_rfl) rfl rfl rfl (fun _ => hs.to) (fun _ => E.move rfl) ?_
    refine D.evPG 15 rfl (by kernel_rfl) rfl rfl rfl (fun _ => hs.to) (fun _ => E.nilCheck rfl) ?_
    first | refine D.evPG 16 rfl (by kernel_rfl) rfl rfl rfl (fun _ => hs.to) (fun _ => E.fieldAddr0 1 rfl Try.underlying84 rfl Try.sz3 rfl) ?_ | refine D.evPG 16 rfl (by kernel_rfl) rfl rfl rfl (fun _ => hs.to) (fun _ => E.fieldAddrN 1 rfl Try.underlying84 rfl Try.sz3 rfl) ?_
    refine D.evG 13 rfl (by kernel_rfl) rfl rfl rfl hs.to (fun _ hS => E.load1 rfl Try.underlying3 rfl (by first | exact hS.ldc | exact hS.ld rfl | exact hS.ld (by assumption) | exact by assumption | exact At.cellC (by assumption) | exact At.cellC ((by assumption : ∀ w', Sat _ w' _ → At w' _ _ _) _ hS) | exact (by assumption : ∀ w', Sat _ w' _ → World.cell? w' _ = some _) _ hS)) ?_
    refine D.evG 17 rfl (by kernel_rfl) rfl rfl rfl hs.to (fun _ hS => E.load1 rfl Try.underlying3 rfl (by first | exact hS.ldc | exact hS.ld rfl | exact hS.ld (by assumption) | exact by assumption | exact At.cellC (by assumption) | exact At.cellC ((by assumption : ∀ w', Sat _ w' _ → At w' _ _ _) _ hS) | exact (by assumption : ∀ w', Sat _ w' _ → World.cell? w' _ = some _) _ hS)) ?_
    refine D.evPG 18 rfl (by kernel_rfl) rfl rfl rfl (fun _ => hs.to) (fun _ => E.eql rfl rfl) ?_
    refine D.evP 19 rfl (by kernel_rfl) rfl (fun _ => hs.to) (fun _ => E.pickT rfl rfl) ?_
    refine D.evP 20 rfl (by kernel_rfl) rfl (fun _ => hs.to) (fun _ => E.move rfl) ?_
    refine D.split 37 rfl (fun h37 => ?_) (fun h37 => ?_)
    · refine D.evPG 21 rfl (by kernel_rfl) rfl rfl rfl (fun _ => hs.to) (fun _ => E.move rfl) ?_
      refine D.evPG 22 rfl (by kernel_rfl) rfl rfl rfl (fun _ => hs.to) (fun _ => E.nilCheck rfl) ?_
      first | refine D.evPG 23 rfl (by kernel_rfl) rfl rfl rfl (fun _ => hs.to) (fun _ => E.fieldAddr0 2 rfl Try.underlying84 rfl Try.sz4 rfl) ?_ | refine D.evPG 23 rfl (by kernel_rfl) rfl rfl rfl (fun _ => hs.to) (fun _ => E.fieldAddrN 2 rfl Try.underlying84 rfl Try.sz4 rfl) ?_
      refine D.evPG 25 rfl (by kernel_rfl) rfl rfl rfl (fun _ => hs.to) (fun _ => E.move rfl) ?_
      refine D.evPG 26 rfl (by kernel_rfl) rfl rfl rfl (fun _ => hs.to) (fun _ => E.nilCheck rfl) ?_
      first | refine D.evPG 27 rfl (by kernel_rfl) rfl rfl rfl (fun _ => hs.to) (fun _ => E.fieldAddr0 2 rfl Try.underlying84 rfl Try.sz4 rfl) ?_ | refine D.evPG 27 rfl (by kernel_rfl) rfl rfl rfl (fun _ => hs.to) (fun _ => E.fieldAddrN 2 rfl Try.underlying84 rfl Try.sz4 rfl) ?_
      refine D.evG 24 rfl (by kernel_rfl) rfl rfl rfl hs.to (fun _ hS => E.load1 rfl Try.underlying4 rfl (by first | exact hS.ldc | exact hS.ld rfl | exact hS.ld (by assumption) | exact by assumption | exact At.cellC (by assumption) | exact At.cellC ((by assumption : ∀ w', Sat _ w' _ → At w' _ _ _) _ hS) | exact (by assumption : ∀ w', Sat _ w' _ → World.cell? w' _ = some _) _ hS)) ?_
      refine D.evG 28 rfl (by kernel_rfl) rfl rfl rfl hs.to (fun _ hS => E.load1 rfl Try.underlying4 rfl (by first | exact hS.ldc | exact hS.ld rfl | exact hS.ld (by assumption) | exact by assumption | exact At.cellC (by assumption) | exact At.cellC ((by assumption : ∀ w', Sat _ w' _ → At w' _ _ _) _ hS) | exact (by assumption : ∀ w', Sat _ w' _ → World.cell? w' _ = some _) _ hS)) ?_
      refine D.evPG 29 rfl (by kernel_rfl) rfl rfl rfl (fun _ => hs.to) (fun _ => E.eqlB rfl rfl Try.underlying4) ?_
      refine D.evP 30 rfl (by kernel_rfl) rfl (fun _ => hs.to) (fun _ => E.pickT rfl rfl) ?_
      refine D.evP 31 rfl (by kernel_rfl) rfl (fun _ => hs.to) (fun _ => E.move rfl) ?_
      refine D.split 48 rfl (fun h48 => ?_) (fun h48 => ?_)
      · refine D.evPG 32 rfl (by kernel_rfl) rfl rfl rfl (fun _ => hs.to) (fun _ => E.move rfl) ?_
        refine D.evPG 33 rfl (by kernel_rfl) rfl rfl rfl (fun _ => hs.to) (fun _ => E.nilCheck rfl) ?_
        first | refine D.evPG 34 rfl (by kernel_rfl) rfl rfl rfl (fun _ => hs.to) (fun _ => E.fieldAddr0 3 rfl Try.underlying84 rfl Try.sz63 rfl) ?_ | refine D.evPG 34 rfl (by kernel_rfl) rfl rfl rfl (fun _ => hs.to) (fun _ => E.fieldAddrN 3 rfl Try.underlying84 rfl Try.sz63 rfl) ?_
        refine D.evPG 36 rfl (by kernel_rfl) rfl rfl rfl (fun _ => hs.to) (fun _ => E.move rfl) ?_
        refine D.evPG 37 rfl (by kernel_rfl) rfl rfl rfl (fun _ => hs.to) (fun _ => E.nilCheck rfl) ?_
        first | refine D.evPG 38 rfl (by kernel_rfl) rfl rfl rfl (fun _ => hs.to) (fun _ => E.fieldAddr0 3 rfl Try.underlying84 rfl Try.sz63 rfl) ?_ | refine D.evPG 38 rfl (by kernel_rfl) rfl rfl rfl (fun _ => hs.to) (fun _ => E.fieldAddrN 3 rfl Try.underlying84 rfl Try.sz63 rfl) ?_
        refine D.evG 35 rfl (by kernel_rfl) rfl rfl rfl hs.to (fun _ hS => E.load1 rfl Try.underlying63 rfl (by first | exact hS.ldc | exact hS.ld rfl | exact hS.ld (by assumption) | exact by assumption | exact At.cellC (by assumption) | exact At.cellC ((by assumption : ∀ w', Sat _ w' _ → At w' _ _ _) _ hS) | exact (by assumption : ∀ w', Sat _ w' _ → World.cell? w' _ = some _) _ hS)) ?_
        refine D.evG 39 rfl (by kernel_rfl) rfl rfl rfl hs.to (fun _ hS => E.load1 rfl Try.underlying63 rfl (by first | exact hS.ldc | exact hS.ld rfl | exact hS.ld (by assumption) | exact by assumption | exact At.cellC (by assumption) | exact At.cellC ((by assumption : ∀ w', Sat _ w' _ → At w' _ _ _) _ hS) | exact (by assumption : ∀ w', Sat _ w' _ → World.cell? w' _ = some _) _ hS)) ?_
        refine D.act 40 rfl (by kernel_rfl) ?_
        refine R.gyes rfl rfl ?_
        refine R.call ⟨_, _, Try.func36, rfl, by kernel_rfl⟩ rfl rfl (eqE_any (L := s.L) (M := s2.L) hs (by omega)) ?_
        rintro _ w40 ⟨rfl, hs⟩
        refine D.back hs.to ?_
        refine D.evP 41 rfl (by kernel_rfl) rfl (fun _ => hs.to) (fun _ => E.pickT rfl rfl) ?_
        refine D.evP 42 rfl (by kernel_rfl) rfl (fun _ => hs.to) (fun _ => E.move rfl) ?_
        refine D.split 59 rfl (fun h59 => ?_) (fun h59 => ?_)
        · refine D.evPG 43 rfl (by kernel_rfl) rfl rfl rfl (fun _ => hs.to) (fun _ => E.move rfl) ?_
          refine D.evPG 44 rfl (by kernel_rfl) rfl rfl rfl (fun _ => hs.to) (fun _ => E.nilCheck rfl) ?_
          first | refine D.evPG 45 rfl (by kernel_rfl) rfl rfl rfl (fun _ => hs.to) (fun _ => E.fieldAddr0 4 rfl Try.underlying84 rfl Try.sz82 rfl) ?_ | refine D.evPG 45 rfl (by kernel_rfl) rfl rfl rfl (fun _ => hs.to) (fun _ => E.fieldAddrN 4 rfl Try.underlying84 rfl Try.sz82 rfl) ?_
          refine D.evPG 47 rfl (by kernel_rfl) rfl rfl rfl (fun _ => hs.to) (fun _ => E.move rfl) ?_
          refine D.evPG 48 rfl (by kernel_rfl) rfl rfl rfl (fun _ => hs.to) (fun _ => E.nilCheck rfl) ?_
          first | refine D.evPG 49 rfl (by kernel_rfl) rfl rfl rfl (fun _ => hs.to) (fun _ => E.fieldAddr0 4 rfl Try.underlying84 rfl Try.sz82 rfl) ?_ | refine D.evPG 49 rfl (by kernel_rfl) rfl rfl rfl (fun _ => hs.to) (fun _ => E.fieldAddrN 4 rfl Try.underlying84 rfl Try.sz82 rfl) ?_
          refine D.evG 46 rfl (by kernel_rfl) rfl rfl rfl hs.to (fun _ hS => E.load1 rfl Try.underlying82 rfl (by first | exact hS.ldc | exact hS.ld rfl | exact hS.ld (by assumption) | exact by assumption | exact At.cellC (by assumption) | exact At.cellC ((by assumption : ∀ w', Sat _ w' _ → At w' _ _ _) _ hS) | exact (by assumption : ∀ w', Sat _ w' _ → World.cell? w' _ = some _) _ hS)) ?_
          refine D.evG 50 rfl (by kernel_rfl) rfl rfl rfl hs.to (fun _ hS => E.load1 rfl Try.underlying82 rfl (by first | exact hS.ldc | exact hS.ld rfl | exact hS.ld (by assumption) | exact by assumption | exact At.cellC (by assumption) | exact At.cellC ((by assumption : ∀ w', Sat _ w' _ → At w' _ _ _) _ hS) | exact (by assumption : ∀ w', Sat _ w' _ → World.cell? w' _ = some _) _ hS)) ?_
          refine D.act 51 rfl (by kernel_rfl) ?_
          refine R.gyes rfl rfl ?_
          refine R.call ⟨_, _, Try.func71, rfl, by kernel_rfl⟩ rfl rfl (equalM_any hs hrep) ?_
          rintro _ w51 ⟨rfl, hs⟩
          refine D.backT (by kernel_rfl) ?_
          refine D.evP 52 rfl (by kernel_rfl) rfl (np (by kernel_rfl)) (fun _ => E.pickT rfl rfl) ?_
          refine D.evP 53 rfl (by kernel_rfl) rfl (np (by kernel_rfl)) (fun _ => E.assign rfl) ?_
          refine D.done rfl (by kernel_rfl) ?_
          refine X.keep [(4, _)] ⟨rfl, trivial⟩ ?_
          refine X.next ?_
          refine C.ret ?_
          refine X.ret1 rfl rfl ?_
          exact ⟨by simp_all [eqB], hs.to⟩
        · refine D.skipP 43 rfl (by kernel_rfl) rfl rfl rfl (fun _ => hs.to) ?_
          refine D.skipP 44 rfl (by kernel_rfl) rfl rfl rfl (fun _ => hs.to) ?_
          refine D.skipP 45 rfl (by kernel_rfl) rfl rfl rfl (fun _ => hs.to) ?_
          refine D.skipP 47 rfl (by kernel_rfl) rfl rfl rfl (fun _ => hs.to) ?_
          refine D.skipP 48 rfl (by kernel_rfl) rfl rfl rfl (fun _ => hs.to) ?_
          refine D.skipP 49 rfl (by kernel_rfl) rfl rfl rfl (fun _ => hs.to) ?_
          refine D.skip 46 rfl (by kernel_rfl) rfl rfl rfl hs.to ?_
          refine D.skip 50 rfl (by kernel_rfl) rfl rfl rfl hs.to ?_
          refine D.act 51 rfl (by kernel_rfl) ?_
          refine R.gskip rfl rfl rfl ?_
          refine D.backT (by kernel_rfl) ?_
          refine D.evP 52 rfl (by kernel_rfl) rfl (np (by kernel_rfl)) (fun _ => E.pickF rfl rfl) ?_
          refine D.evP 53 rfl (by kernel_rfl) rfl (np (by kernel_rfl)) (fun _ => E.assign rfl) ?_
          refine D.done rfl (by kernel_rfl) ?_
          refine X.keep [(4, _)] ⟨rfl, trivial⟩ ?_
          refine X.next ?_
          refine C.ret ?_
          refine X.ret1 rfl rfl ?_
          exact ⟨by simp_all [eqB], hs.to⟩
      · refine D.skipP 32 rfl (by kernel_rfl) rfl rfl rfl (fun _ => hs.to) ?_
        refine D.skipP 33 rfl (by kernel_rfl) rfl rfl rfl (fun _ => hs.to) ?_
        refine D.skipP 34 rfl (by kernel_rfl) rfl rfl rfl (fun _ => hs.to) ?_
        refine D.skipP 36 rfl (by kernel_rfl) rfl rfl rfl (fun _ => hs.to) ?_
        refine D.skipP 37 rfl (by kernel_rfl) rfl rfl rfl (fun _ => hs.to) ?_
        refine D.skipP 38 rfl (by kernel_rfl) rfl rfl rfl (fun _ => hs.to) ?_
        refine D.skip 35 rfl (by kernel_rfl) rfl rfl rfl hs.to ?_
        refine D.skip 39 rfl (by kernel_rfl) rfl rfl rfl hs.to ?_
        refine D.act 40 rfl (by kernel_rfl) ?_
        refine R.gskip rfl rfl rfl ?_
        refine D.back hs.to ?_
        refine D.evP 41 rfl (by kernel_rfl) rfl (fun _ => hs.to) (fun _ => E.pickF rfl rfl) ?_
        refine D.evP 42 rfl (by kernel_rfl) rfl (fun _ => hs.to) (fun _ => E.move rfl) ?_
        refine D.skipP 43 rfl (by kernel_rfl) rfl rfl rfl (fun _ => hs.to) ?_
        refine D.skipP 44 rfl (by kernel_rfl) rfl rfl rfl (fun _ => hs.to) ?_
        refine D.skipP 45 rfl (by kernel_rfl) rfl rfl rfl (fun _ => hs.to) ?_
        refine D.skipP 47 rfl (by kernel_rfl) rfl rfl rfl (fun _ => hs.to) ?_
        refine D.skipP 48 rfl (by kernel_rfl) rfl rfl rfl (fun _ => hs.to) ?_
        refine D.skipP 49 rfl (by kernel_rfl) rfl rfl rfl (fun _ => hs.to) ?_
        refine D.skip 46 rfl (by kernel_rfl) rfl rfl rfl hs.to ?_
        refine D.skip 50 rfl (by kernel_rfl) rfl rfl rfl hs.to ?_
        refine D.act 51 rfl (by kernel_rfl) ?_
        refine R.gskip rfl rfl rfl ?_
        refine D.backT (by kernel_rfl) ?_
        refine D.evP 52 rfl (by kernel_rfl) rfl (np (by kernel_rfl)) (fun _ => E.pickF rfl rfl) ?_
        refine D.evP 53 rfl (by kernel_rfl) rfl (np (by kernel_rfl)) (fun _ => E.assign rfl) ?_
        refine D.done rfl (by kernel_rfl) ?_
        refine X.keep [(4, _)] ⟨rfl, trivial⟩ ?_
        refine X.next ?_
        refine C.ret ?_
        refine X.ret1 rfl rfl ?_
        exact ⟨by simp_all [eqB], hs.to⟩
    · refine D.skipP 21 rfl (by kernel_rfl) rfl rfl rfl (fun _ => hs.to) ?_
      refine D.skipP 22 rfl (by kernel_rfl) rfl rfl rfl (fun _ => hs.to) ?_
      refine D.skipP 23 rfl (by kernel_rfl) rfl rfl rfl (fun _ => hs.to) ?_
      refine D.skipP 25 rfl (by kernel_rfl) rfl rfl rfl (fun _ => hs.to) ?_
      refine D.skipP 26 rfl (by kernel_rfl) rfl rfl rfl (fun _ => hs.to) ?_
      refine D.skipP 27 rfl (by kernel_rfl) rfl rfl rfl (fun _ => hs.to) ?_
      refine D.skip 24 rfl (by kernel_rfl) rfl rfl rfl hs.to ?_
      refine D.skip 28 rfl (by kernel_rfl) rfl rfl rfl hs.to ?_
      refine D.skipP 29 rfl (by kernel_rfl) rfl rfl rfl (fun _ => hs.to) ?_
      refine D.evP 30 rfl (by kernel_rfl) rfl (fun _ => hs.to) (fun _ => E.pickF rfl rfl) ?_
      refine D.evP 31 rfl (by kernel_rfl) rfl (fun _ => hs.to) (fun _ => E.move rfl) ?_
      refine D.skipP 32 rfl (by kernel_rfl) rfl rfl rfl (fun _ => hs.to) ?_
      refine D.skipP 33 rfl (by kernel_rfl) rfl rfl rfl (fun _ => hs.to) ?_
      refine D.skipP 34 rfl (by kernel_rfl) rfl rfl rfl (fun _ => hs.to) ?_
      refine D.skipP 36 rfl (by kernel_rfl) rfl rfl rfl (fun _ => hs.to) ?_
      refine D.skipP 37 rfl (by kernel_rfl) rfl rfl rfl (fun _ => hs.to) ?_
      refine D.skipP 38 rfl (by kernel_rfl) rfl rfl rfl (fun _ => hs.to) ?_
      refine D.skip 35 rfl (by kernel_rfl) rfl rfl rfl hs.to ?_
      refine D.skip 39 rfl (by kernel_rfl) rfl rfl rfl hs.to ?_
      refine D.act 40 rfl (by kernel_rfl) ?_
      refine R.gskip rfl rfl rfl ?_
      refine D.back hs.to ?_
      refine D.evP 41 rfl (by kernel_rfl) rfl (fun _ => hs.to) (fun _ => E.pickF rfl rfl) ?_
      refine D.evP 42 rfl (by kernel_rfl) rfl (fun _ => hs.to) (fun _ => E.move rfl) ?_
      refine D.skipP 43 rfl (by kernel_rfl) rfl rfl rfl (fun _ => hs.to) ?_
      refine D.skipP 44 rfl (by kernel_rfl) rfl rfl rfl (fun _ => hs.to) ?_
      refine D.skipP 45 rfl (by kernel_rfl) rfl rfl rfl (fun _ => hs.to) ?_
      refine D.skipP 47 rfl (by kernel_rfl) rfl rfl rfl (fun _ => hs.to) ?_
      refine D.skipP 48 rfl (by kernel_rfl) rfl rfl rfl (fun _ => hs.to) ?_
      refine D.skipP 49 rfl (by kernel_rfl) rfl rfl rfl (fun _ => hs.to) ?_
      refine D.skip 46 rfl (by kernel_rfl) rfl rfl rfl hs.to ?_
      refine D.skip 50 rfl (by kernel_rfl) rfl rfl rfl hs.to ?_
      refine D.act 51 rfl (by kernel_rfl) ?_
      refine R.gskip rfl rfl rfl ?_
      refine D.backT (by kernel_rfl) ?_
      refine D.evP 52 rfl (by kernel_rfl) rfl (np (by kernel_rfl)) (fun _ => E.pickF rfl rfl) ?_
      refine D.evP 53 rfl (by kernel_rfl) rfl (np (by kernel_rfl)) (fun _ => E.assign rfl) ?_
      refine D.done rfl (by kernel_rfl) ?_
      refine X.keep [(4, _)] ⟨rfl, trivial⟩ ?_
      refine X.next ?_
      refine C.ret ?_
      refine X.ret1 rfl rfl ?_
      exact ⟨by simp_all [eqB], hs.to⟩
  · refine D.skipP 10 rfl (by kernel_rfl) rfl rfl rfl (fun _ => hs.to) ?_
    refine D.skipP 11 rfl (by kernel_rfl) rfl rfl rfl (fun _ => hs.to) ?_
    refine D.skipP 12 rfl (by kernel_rfl) rfl rfl rfl (fun _ => hs.to) ?_
    refine D.skipP 14 rfl (by kernel_rfl) rfl rfl rfl (fun _ => hs.to) ?_
    refine D.skipP 15 rfl (by kernel_rfl) rfl rfl rfl (fun _ => hs.to) ?_
    refine D.skipP 16 rfl (by kernel_rfl) rfl rfl rfl (fun _ => hs.to) ?_
    refine D.skip 13 rfl (by kernel_rfl) rfl rfl rfl hs.to ?_
    refine D.skip 17 rfl (by kernel_rfl) rfl rfl rfl hs.to ?_
    refine D.skipP 18 rfl (by kernel_rfl) rfl rfl rfl (fun _ => hs.to) ?_
    refine D.evP 19 rfl (by kernel_rfl) rfl (fun _ => hs.to) (fun _ => E.pickF rfl rfl) ?_
    refine D.evP 20 rfl (by kernel_rfl) rfl (fun _ => hs.to) (fun _ => E.move rfl) ?_
    refine D.skipP 21 rfl (by kernel_rfl) rfl rfl rfl (fun _ => hs.to) ?_
    refine D.skipP 22 rfl (by kernel_rfl) rfl rfl rfl (fun _ => hs.to) ?_
    refine D.skipP 23 rfl (by kernel_rfl) rfl rfl rfl (fun _ => hs.to) ?_
    refine D.skipP 25 rfl (by kernel_rfl) rfl rfl rfl (fun _ => hs.to) ?_
    refine D.skipP 26 rfl (by kernel_rfl) rfl rfl rfl (fun _ => hs.to) ?_
    refine D.skipP 27 rfl (by kernel_rfl) rfl rfl rfl (fun _ => hs.to) ?_
    refine D.skip 24 rfl (by kernel_rfl) rfl rfl rfl hs.to ?_
    refine D.skip 28 rfl (by kernel_rfl) rfl rfl rfl hs.to ?_
    refine D.skipP 29 rfl (by kernel_rfl) rfl rfl rfl (fun _ => hs.to) ?_
    refine D.evP 30 rfl (by kernel_rfl) rfl (fun _ => hs.to) (fun _ => E.pickF rfl rfl) ?_
    refine D.evP 31 rfl (by kernel_rfl) rfl (fun _ => hs.to) (fun _ => E.move rfl) ?_
    refine D.skipP 32 rfl (by kernel_rfl) rfl rfl rfl (fun _ => hs.to) ?_
    refine D.skipP 33 rfl (by kernel_rfl) rfl rfl rfl (fun _ => hs.to) ?_
    refine D.skipP 34 rfl (by kernel_rfl) rfl rfl rfl (fun _ => hs.to) ?_
    refine D.skipP 36 rfl (by kernel_rfl) rfl rfl rfl (fun _ => hs.to) ?_
    refine D.skipP 37 rfl (by kernel_rfl) rfl rfl rfl (fun _ => hs.to) ?_
    refine D.skipP 38 rfl (by kernel_rfl) rfl rfl rfl (fun _ => hs.to) ?_
    refine D.skip 35 rfl (by kernel_rfl) rfl rfl rfl hs.to ?_
    refine D.skip 39 rfl (by kernel_rfl) rfl rfl rfl hs.to ?_
    refine D.act 40 rfl (by kernel_rfl) ?_
    refine R.gskip rfl rfl rfl ?_
    refine D.back hs.to ?_
    refine D.evP 41 rfl (by kernel_rfl) rfl (fun _ => hs.to) (fun _ => E.pickF rfl rfl) ?_
    refine D.evP 42 rfl (by kernel_rfl) rfl (fun _ => hs.to) (fun _ => E.move rfl) ?_
    refine D.skipP 43 rfl (by kernel_rfl) rfl rfl rfl (fun _ => hs.to) ?_
    refine D.skipP 44 rfl (by kernel_rfl) rfl rfl rfl (fun _ => hs.to) ?_
    refine D.skipP 45 rfl (by kernel_rfl) rfl rfl rfl (fun _ => hs.to) ?_
    refine D.skipP 47 rfl (by kernel_rfl) rfl rfl rfl (fun _ => hs.to) ?_
    refine D.skipP 48 rfl (by kernel_rfl) rfl rfl rfl (fun _ => hs.to) ?_
    refine D.skipP 49 rfl (by kernel_rfl) rfl rfl rfl (fun _ => hs.to) ?_
    refine D.skip 46 rfl (by kernel_rfl) rfl rfl rfl hs.to ?_
    refine D.skip 50 rfl (by kernel_rfl) rfl rfl rfl hs.to ?_
    refine D.act 51 rfl (by kernel_rfl) ?_
    refine R.gskip rfl rfl rfl ?_
    refine D.backT (by kernel_rfl) ?_
    refine D.evP 52 rfl (by kernel_rfl) rfl (np (by kernel_rfl)) (fun _ => E.pickF rfl rfl) ?_
    refine D.evP 53 rfl (by kernel_rfl) rfl (np (by kernel_rfl)) (fun _ => E.assign rfl) ?_
    refine D.done rfl (by kernel_rfl) ?_
    refine X.keep [(4, _)] ⟨rfl, trivial⟩ ?_
    refine X.next ?_
    refine C.ret ?_
    refine X.ret1 rfl rfl ?_
    exact ⟨by simp_all [eqB], hs.to⟩
end Go.Proofs.Ytoidpcmcbmioiaa
