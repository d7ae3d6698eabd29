/-
  package backlog: Clone and Equal; the reference's Same.
-/
import Derived.Test.YtoidpcmcbmioiaaRun38
namespace Go.Proofs.Ytoidpcmcbmioiaa
open Go.Eng Go.RowKit

variable {K : Kn} {Hs Rs : List Hl} {F : Hl} {w : World} {p : Nat} {s : Bk} {v : Value}
/-- maps.Copy into an empty map: in whatever order, a permutation -/
theorem putM_new {κ ν : Type} [DecidableEq κ] {k : κ} {x : ν} : ∀ {M : List (κ × ν)}, k ∉ M.map (·.1) → putM k x M = M ++ [(k, x)]
  | [], _ => rfl
  | (a, y) :: M, h => by
    simp only [List.map_cons, List.mem_cons, not_or] at h
    rw [putM, if_neg (fun e => h.1 e), putM_new h.2]; rfl
theorem copy_step {κ ν : Type} {M Md Lr L8 : List (κ × ν)} {q : κ × ν} (hnd : (M.map (·.1)).Nodup) (h : (Md ++ Lr).Perm M) (hp : Lr.Perm (q :: L8)) : q.1 ∉ Md.map (·.1) ∧ (Md ++ [q] ++ L8).Perm M := by
  have h2 : (Md ++ (q :: L8)).Perm M := (List.Perm.append_left Md hp.symm).trans h
  refine ⟨?_, by simpa using h2⟩
  have h3 : ((Md ++ (q :: L8)).map (·.1)).Nodup := (h2.map _).nodup_iff.2 hnd
  rw [List.map_append, List.nodup_append] at h3
  intro hm
  exact h3.2.2 _ hm _ (by simp) rfl
theorem copy_any {dst : Value} {b : Nat} {M : OMap} {es : Array MapEntry} {clock : Nat} {Fd : Hl} (hs : Sat K w (Fd :: Rs)) [hd : MapL ekI Value.bool dst [] Fd] (hr : MapRep ekI Value.bool M es clock) [hb : InH b (.map es clock) Rs] :
    Ret Try.prog 65 #[dst, .map (some b)] w fun _ w' => ∃ M' F', MapL ekI Value.bool dst M' F' ∧ M'.Perm M ∧ Sat K w' (F' :: Rs) := by
  refine Ret.enter (n := 16) (args := [dst, .map (some b)]) Try.func65 rfl rfl ?_
  refine C.keep [(0, _), (1, _)] ⟨rfl, rfl, trivial⟩ ?_
  refine C.seq ?_
  refine C.region ?_
  refine R.ev rfl (E.move rfl) ?_
  refine R.crange hs rfl Try.underlying82 (hr) rfl ?_
  intro r7 w7 F7 it7 hs
  refine R.done ?_
  refine X.keep [(0, _), (7, _)] ⟨rfl, rfl, trivial⟩ ?_
  refine X.next ?_
  refine C.block ?_
  refine C.loop (T := OMap × OMap × Hl × Hl) [(0, _), (7, _)] (fun _ => []) (fun (Lr, Md, Fi, Fd) w' => ItP ekI Value.bool r7 b es clock Lr Fi ∧ MapL ekI Value.bool dst Md Fd ∧ (Md ++ Lr).Perm M ∧ Sat K w' (Fi :: Fd :: Rs)) (fun (Lr, _) => Lr.length) ((M, [], F7, Fd)) ⟨rfl, rfl, trivial⟩ ⟨it7, hd, by simp, hs⟩ ?_
  rintro ⟨Lr, Md, Fi, Fd1⟩ w1 ⟨hit, hm1, hpm, hs⟩
  refine C.keep [(0, _), (7, _)] ⟨rfl, rfl, trivial⟩ ?_
  refine C.seq ?_
  refine C.region ?_
  refine R.cnext hs rfl (hr) (hit) rfl ?_ ?_
  · intro hover
    refine R.ev rfl (E.extract rfl rfl) ?_
    refine R.done ?_
    refine X.keep [(0, _), (7, _), (9, _)] ⟨rfl, rfl, rfl, trivial⟩ ?_
    refine X.next ?_
    refine C.seq ?_
    refine C.cfalse rfl ?_
    refine C.exit ?_
    refine X.thenExit ?_
    refine X.loopExit ?_
    refine X.blockExit ?_
    refine X.bodyNormal ?_
    refine X.ret0 rfl ?_
    exact ⟨Md, Fd1, hm1, by rw [hover, List.append_nil] at hpm; exact hpm, hs.to⟩
  · intro p8 L8 w8 F8 pm8 mm8 it8 hs hent
    refine R.ev rfl (E.extract rfl rfl) ?_
    refine R.done ?_
    refine X.keep [(0, _), (7, _), (9, _)] ⟨rfl, rfl, rfl, trivial⟩ ?_
    refine X.next ?_
    refine C.seq ?_
    refine C.ctrue rfl ?_
    refine C.skip ?_
    refine X.next ?_
    refine C.block ?_
    refine C.seq ?_
    refine C.region ?_
    refine R.ev rfl (E.entryC rfl (hent _ hs)) ?_
    refine R.ev rfl (E.extract rfl rfl) ?_
    refine R.ev rfl (E.extract rfl rfl) ?_
    refine R.sallocA hs Try.zr30 rfl ?_
    intro b4 w4 hs
    first | refine R.cstoreAll hs rfl rfl Try.sz30 (by first | rfl | assumption | exact encV_len _ | exact Enc.len _ | exact len_ub (by assumption) | simp [*]) (by first | rfl | assumption | exact encV_len _ | exact Enc.len _ | exact len_ub (by assumption) | simp [*]) (by first | assumption | exact OneL.all | exact Enc.one _ | exact ub_all _ | (repeat' (first | refine List.forall_mem_cons.2 ⟨?_, ?_⟩ | exact List.forall_mem_nil _ | rfl | exact OneC.one | exact KRow.oneC' (by assumption)))) ?_ | refine R.cstore hs rfl rfl Try.sz30 (by first | rfl | assumption | exact encV_len _ | exact Enc.len _ | exact len_ub (by assumption) | simp [*]) (by simp [*]) (by first | assumption | exact OneL.all | exact Enc.one _ | exact ub_all _ | (repeat' (first | refine List.forall_mem_cons.2 ⟨?_, ?_⟩ | exact List.forall_mem_nil _ | rfl | exact OneC.one | exact KRow.oneC' (by assumption)))) ?_
    intro w2_4 hs
    try simp only [List.set_cons_zero, List.set_cons_succ] at hs
    refine R.ev rfl (E.assign rfl) ?_
    refine R.done ?_
    refine X.keep [(0, _), (4, _), (5, _), (7, _)] ⟨rfl, rfl, rfl, rfl, trivial⟩ ?_
    refine X.next ?_
    refine C.region ?_
    refine R.ev rfl (E.move rfl) ?_
    refine R.ev rfl (E.loadRowC rfl Try.underlying30 rfl Try.sz30 (by first | exact ⟨hs.ldA, by first | rfl | assumption | exact encV_len _ | exact Enc.len _ | exact len_ub (by assumption)⟩ | exact ⟨hs.ldP rfl, by first | rfl | assumption | exact encV_len _ | exact Enc.len _ | exact len_ub (by assumption)⟩ | exact ⟨hs.ldM rfl rfl, by first | rfl | assumption | exact encV_len _ | exact Enc.len _ | exact len_ub (by assumption)⟩ | exact ⟨hs.ldM (by assumption) (by first | rfl | assumption), by first | rfl | assumption | exact encV_len _ | exact Enc.len _ | exact len_ub (by assumption)⟩ | exact ⟨by assumption, by first | rfl | assumption | exact encV_len _ | exact Enc.len _ | exact len_ub (by assumption)⟩ | exact hs.ldp | exact At.partC (by assumption))) ?_
    refine R.ev rfl (E.move rfl) ?_
    refine R.cput (p8.1) (p8.2) hs rfl rfl rfl Try.underlying82 (by rfl) (by rfl) ?_
    intro w3_3 F3_3 m3_3 hs
    refine R.done ?_
    refine X.keep [(0, _), (7, _)] ⟨rfl, rfl, trivial⟩ ?_
    refine X.blockNormal ?_
    obtain ⟨hnm, hpm2⟩ := copy_step hr.nd hpm pm8
    rw [putM_new hnm] at m3_3
    exact X.again (L8, Md ++ [p8], F8, F3_3) ⟨rfl, rfl, trivial⟩ ⟨it8, m3_3, hpm2, hs.to⟩ (by show L8.length < Lr.length; rw [pm8.length_eq]; simp)
theorem clone_any (hs : Sat K w Hs) [hw : BkIn p s Hs] (hL : s.L.length ≤ 1000000) : Ret Try.prog 37 #[ptr p] w fun r w' => ∃ q M' F', r = ptr q ∧ BkL q { s with M := M' } F' ∧ M'.Perm s.M ∧ Sat K w' (F' :: Hs) := by
  obtain ⟨v, m, G, H, hin, hr, hG, hm, hH⟩ := hw.ex
  obtain ⟨ad, cap, rfl, hc, hcm, had⟩ := hr.val
  obtain ⟨b, es, clock, rfl, rfl, hrep⟩ := hm.ex
  have hib : InH b (.map es clock) Hs := ⟨hH.sub _ (by simp)⟩
  refine Ret.enter (n := 24) (args := [ptr p]) Try.func37 rfl rfl ?_
  refine C.keep [(0, _)] ⟨rfl, trivial⟩ ?_
  refine C.seq ?_
  refine C.region ?_
  refine R.ev rfl (E.assign rfl) ?_
  refine R.done ?_
  refine X.keep [(0, _)] ⟨rfl, trivial⟩ ?_
  refine X.next ?_
  refine C.seq ?_
  refine C.seq ?_
  refine C.region ?_
  refine R.ev rfl (E.move rfl) ?_
  refine R.ev rfl (E.eqlNilF rfl rfl Try.underlying25) ?_
  refine R.done ?_
  refine X.keep [(0, _), (5, _)] ⟨rfl, rfl, trivial⟩ ?_
  refine X.next ?_
  refine C.cfalse rfl ?_
  refine C.skip ?_
  refine X.next ?_
  refine C.seq ?_
  refine C.region ?_
  refine R.ev rfl (E.move rfl) ?_
  refine R.ev rfl (E.nilCheck rfl) ?_
  refine R.ev rfl (E.loadRowC rfl Try.underlying84 rfl Try.sz84 (by first | exact ⟨hs.ldA, by first | rfl | assumption | exact encV_len _ | exact Enc.len _ | exact len_ub (by assumption)⟩ | exact ⟨hs.ldP rfl, by first | rfl | assumption | exact encV_len _ | exact Enc.len _ | exact len_ub (by assumption)⟩ | exact ⟨hs.ldM rfl rfl, by first | rfl | assumption | exact encV_len _ | exact Enc.len _ | exact len_ub (by assumption)⟩ | exact ⟨hs.ldM (by assumption) (by first | rfl | assumption), by first | rfl | assumption | exact encV_len _ | exact Enc.len _ | exact len_ub (by assumption)⟩ | exact ⟨by assumption, by first | rfl | assumption | exact encV_len _ | exact Enc.len _ | exact len_ub (by assumption)⟩ | exact hs.ldp | exact At.partC (by assumption))) ?_
  refine R.sallocA hs Try.zr84 rfl ?_
  intro b3 w3 hs
  first | refine R.cstoreAll hs rfl rfl Try.sz84 (by first | rfl | assumption | exact encV_len _ | exact Enc.len _ | exact len_ub (by assumption) | simp [*]) (by first | rfl | assumption | exact encV_len _ | exact Enc.len _ | exact len_ub (by assumption) | simp [*]) (by first | assumption | exact OneL.all | exact Enc.one _ | exact ub_all _ | (repeat' (first | refine List.forall_mem_cons.2 ⟨?_, ?_⟩ | exact List.forall_mem_nil _ | rfl | exact OneC.one | exact KRow.oneC' (by assumption)))) ?_ | refine R.cstore hs rfl rfl Try.sz84 (by first | rfl | assumption | exact encV_len _ | exact Enc.len _ | exact len_ub (by assumption) | simp [*]) (by simp [*]) (by first | assumption | exact OneL.all | exact Enc.one _ | exact ub_all _ | (repeat' (first | refine List.forall_mem_cons.2 ⟨?_, ?_⟩ | exact List.forall_mem_nil _ | rfl | exact OneC.one | exact KRow.oneC' (by assumption)))) ?_
  intro w3_4 hs
  try simp only [List.set_cons_zero, List.set_cons_succ] at hs
  refine R.done ?_
  refine X.keep [(0, _), (3, _)] ⟨rfl, rfl, trivial⟩ ?_
  refine X.next ?_
  refine C.seq ?_
  refine C.region ?_
  refine R.ev rfl (E.move rfl) ?_
  refine R.ev rfl (E.nilCheck rfl) ?_
  first | refine R.ev rfl (E.fieldAddr0 3 rfl Try.underlying84 rfl Try.sz63 rfl) ?_ | refine R.ev rfl (E.fieldAddrN 3 rfl Try.underlying84 rfl Try.sz63 rfl) ?_
  refine R.ev rfl (E.load1 rfl Try.underlying63 rfl (by first | exact hs.ldc | exact hs.ld rfl | exact hs.ld (by assumption) | exact by assumption | exact At.cellC (by assumption))) ?_
  refine R.call ⟨_, _, Try.func64, rfl, by kernel_rfl⟩ rfl rfl (cloneE_any hs hL) ?_
  rintro v13 w13 ⟨F13, r13, hs⟩
  have o13 : OneC v13 := ⟨RowL.oneC⟩
  first | refine R.ev rfl (E.fieldAddr0 3 rfl Try.underlying84 rfl Try.sz63 rfl) ?_ | refine R.ev rfl (E.fieldAddrN 3 rfl Try.underlying84 rfl Try.sz63 rfl) ?_
  refine R.cstore1 hs rfl rfl Try.sz63 (by first | decide | simp [*]) (by first | rfl | exact OneC.one | exact KRow.oneC' (by assumption)) ?_
  intro w4_6 hs
  try simp only [List.set_cons_zero, List.set_cons_succ] at hs
  refine R.done ?_
  refine X.keep [(0, _), (3, _)] ⟨rfl, rfl, trivial⟩ ?_
  refine X.next ?_
  refine C.seq ?_
  refine C.region ?_
  refine R.cmake hs Try.underlying82 (Value.bool) rfl ?_
  intro v15 w15 F15 m15 hs
  have o15 : OneC v15 := ⟨by obtain ⟨b', _, _, rfl, _⟩ := m15.ex; rfl⟩
  first | refine R.ev rfl (E.fieldAddr0 4 rfl Try.underlying84 rfl Try.sz82 rfl) ?_ | refine R.ev rfl (E.fieldAddrN 4 rfl Try.underlying84 rfl Try.sz82 rfl) ?_
  refine R.cstore1 hs rfl rfl Try.sz82 (by first | decide | simp [*]) (by first | rfl | exact OneC.one | exact KRow.oneC' (by assumption)) ?_
  intro w5_2 hs
  try simp only [List.set_cons_zero, List.set_cons_succ] at hs
  refine R.done ?_
  refine X.keep [(0, _), (3, _)] ⟨rfl, rfl, trivial⟩ ?_
  refine X.next ?_
  refine C.seq ?_
  refine C.drawn (SatS hs) ([1, 5], [0, 2, 3, 4]) (by kernel_rfl) ?_
  have hs := hs.drew
  first | refine D.evP 0 rfl (by kernel_rfl) rfl (fun _ => hs.to) (fun _ => E.fieldAddr0 4 rfl Try.underlying84 rfl Try.sz82 rfl) ?_ | refine D.evP 0 rfl (by kernel_rfl) rfl (fun _ => hs.to) (fun _ => E.fieldAddrN 4 rfl Try.underlying84 rfl Try.sz82 rfl) ?_
  refine D.evP 2 rfl (by kernel_rfl) rfl (fun _ => hs.to) (fun _ => E.move rfl) ?_
  refine D.evP 3 rfl (by kernel_rfl) rfl (fun _ => hs.to) (fun _ => E.nilCheck rfl) ?_
  first | refine D.evP 4 rfl (by kernel_rfl) rfl (fun _ => hs.to) (fun _ => E.fieldAddr0 4 rfl Try.underlying84 rfl Try.sz82 rfl) ?_ | refine D.evP 4 rfl (by kernel_rfl) rfl (fun _ => hs.to) (fun _ => E.fieldAddrN 4 rfl Try.underlying84 rfl Try.sz82 rfl) ?_
  refine D.ev 1 rfl (by kernel_rfl) rfl hs.to (fun _ hS => E.load1 rfl Try.underlying82 rfl (by first | exact hS.ldc | exact hS.ld rfl | exact hS.ld (by assumption) | exact by assumption | exact At.cellC (by assumption) | exact At.cellC ((by assumption : ∀ w', Sat _ w' _ → At w' _ _ _) _ hS) | exact (by assumption : ∀ w', Sat _ w' _ → World.cell? w' _ = some _) _ hS)) ?_
  refine D.ev 5 rfl (by kernel_rfl) rfl hs.to (fun _ hS => E.load1 rfl Try.underlying82 rfl (by first | exact hS.ldc | exact hS.ld rfl | exact hS.ld (by assumption) | exact by assumption | exact At.cellC (by assumption) | exact At.cellC ((by assumption : ∀ w', Sat _ w' _ → At w' _ _ _) _ hS) | exact (by assumption : ∀ w', Sat _ w' _ → World.cell? w' _ = some _) _ hS)) ?_
  refine D.act 6 rfl (by kernel_rfl) ?_
  refine R.call ⟨_, _, Try.func65, rfl, by kernel_rfl⟩ rfl rfl (copy_any (dst := v15) (Fd := F15) (hs.front (F := F15)) hrep) ?_
  rintro _ w23 ⟨M', F23, m23, hpm, hs1⟩
  have hs := hs.back (F := F15) hs1
  refine D.backT (by kernel_rfl) ?_
  refine D.done rfl (by kernel_rfl) ?_
  refine X.keep [(3, _)] ⟨rfl, trivial⟩ ?_
  refine X.next ?_
  refine C.seq ?_
  refine C.region ?_
  refine R.ev rfl (E.assign rfl) ?_
  refine R.done ?_
  refine X.keep [(2, _)] ⟨rfl, trivial⟩ ?_
  refine X.next ?_
  refine C.ret ?_
  refine X.ret1 rfl rfl ?_
  exact ⟨_, M', _, rfl, BkL.mk' r13 m23, hpm, hs.to⟩
end Go.Proofs.Ytoidpcmcbmioiaa
