/-
  HistoryNil returns true for every input. No condition.
-/
import Derived.Test.YtobhhnfckhbeeaaRows
import Derived.Test.YtobhhnfckhbeeaaHisN
namespace Go.Proofs.Ytobhhnfckhbeeaa
open Go.Eng Go.RowKit Go.Sort
variable {K : Kn} {Hs Rs : List Hl} {F : Hl} {w : World}
theorem nsorted_any {fv : Value} (hs : Sat K w Hs) : Ret Try.prog 49 #[.pointer none, fv] w fun r w' => r = .slice none 0 0 ∧ Sat K w' Hs := by
  refine Ret.enter (n := 29) (args := [.pointer none, fv]) Try.func49 rfl rfl ?_
  refine C.keep [(0, _), (1, _)] ⟨rfl, rfl, trivial⟩ ?_
  refine C.seq ?_
  refine C.region ?_
  refine R.ev rfl (E.assign rfl) ?_
  refine R.done ?_
  refine X.keep [(0, _), (1, _)] ⟨rfl, rfl, trivial⟩ ?_
  refine X.next ?_
  refine C.seq ?_
  refine C.seq ?_
  refine C.region ?_
  refine R.ev rfl (E.move rfl) ?_
  refine R.ev rfl (E.eqlNilT rfl rfl Try.underlying35) ?_
  refine R.done ?_
  refine X.keep [(0, _), (1, _), (9, _)] ⟨rfl, rfl, rfl, trivial⟩ ?_
  refine X.next ?_
  refine C.ctrue rfl ?_
  refine C.seq ?_
  refine C.region ?_
  refine R.ev rfl (E.assign rfl) ?_
  refine R.done ?_
  refine X.keep [(4, _)] ⟨rfl, trivial⟩ ?_
  refine X.next ?_
  refine C.ret ?_
  refine X.thenRet ?_
  refine X.ret1 rfl rfl ?_
  exact ⟨rfl, hs.to⟩
theorem nall1_iter {b : Nat} (hb : InH b (.cells [.pointer none].toArray 35 (0, 0)) Hs) : Iter Try.prog K 48 [] [ptr b] evH [] Hs := by
  intro σ yv Pc step ok s0 F Rs w hsub hf hok0 hX hs
  have hb := hb.sub hsub
  show Ret _ _ #[yv, ptr b] _ _
  refine Ret.enter (n := 17) (args := [yv, ptr b]) Try.func48 rfl rfl ?_
  refine C.keep [(0, _), (1, _)] ⟨rfl, rfl, trivial⟩ ?_
  refine C.seq ?_
  refine C.region ?_
  refine R.ev rfl (E.load1 rfl Try.underlying35 rfl (by first | exact hs.ldc | exact hs.ld rfl | exact hs.ld (by assumption) | exact by assumption | exact At.cellC (by assumption))) ?_
  refine R.call ⟨_, _, Try.func49, rfl, by kernel_rfl⟩ rfl rfl (nsorted_any hs) ?_
  rintro _ w6 ⟨rfl, hs⟩
  refine R.ev rfl (E.lenSl rfl Try.underlying65) ?_
  refine R.ev rfl (E.move rfl) ?_
  refine R.done ?_
  refine X.keep [(0, _), (6, _), (7, _), (8, _)] ⟨rfl, rfl, rfl, rfl, trivial⟩ ?_
  refine X.next ?_
  refine C.block ?_
  refine C.loop (T := Unit) [(0, _), (6, _), (7, _)] (fun _ => [(8, .int .i64 0)]) (fun _ w' => Sat K w' (F :: Rs)) (fun _ => 0) (()) ⟨rfl, rfl, rfl, rfl, trivial⟩ hs ?_
  rintro _ w1 hs
  refine C.keep [(0, _), (6, _), (7, _), (8, _)] ⟨rfl, rfl, rfl, rfl, trivial⟩ ?_
  refine C.seq ?_
  refine C.region ?_
  refine R.ev rfl (E.lss rfl rfl) ?_
  refine R.done ?_
  refine X.keep [(0, _), (6, _), (7, _), (8, _), (9, _)] ⟨rfl, rfl, rfl, rfl, rfl, trivial⟩ ?_
  refine X.next ?_
  refine C.seq ?_
  refine C.cfalse rfl ?_
  refine C.exit ?_
  refine X.thenExit ?_
  refine X.loopExit ?_
  refine X.blockExit ?_
  refine X.bodyNormal ?_
  refine X.ret0 rfl ?_
  exact ⟨F, hX, hs.to⟩
set_option maxRecDepth 100000 in
theorem nget_any (a : Vec 32) (hs : Sat K w Hs) : Ret Try.prog 29 #[.pointer none, idV a.1] w fun r w' => r = .tuple #[evH hz, .bool false] ∧ Sat K w' Hs := by
  have e1 := encV_len a
  refine Ret.enter (n := 22) (args := [.pointer none, idV a.1]) Try.func29 rfl rfl ?_
  refine C.keep [(0, _), (1, _)] ⟨rfl, rfl, trivial⟩ ?_
  refine C.seq ?_
  refine C.region ?_
  refine R.sboxA hs rfl rfl ?_
  intro b3 w3 hs
  refine R.sallocA hs Try.zr29 rfl ?_
  intro b4 w4 hs
  refine R.ev rfl (E.assign rfl) ?_
  refine R.done ?_
  refine X.keep [(0, _), (3, _), (4, _)] ⟨rfl, rfl, rfl, trivial⟩ ?_
  refine X.next ?_
  refine C.seq ?_
  refine C.seq ?_
  refine C.region ?_
  refine R.ev rfl (E.move rfl) ?_
  refine R.ev rfl (E.eqlNilT rfl rfl Try.underlying35) ?_
  refine R.done ?_
  refine X.keep [(0, _), (3, _), (4, _), (9, _)] ⟨rfl, rfl, rfl, rfl, trivial⟩ ?_
  refine X.next ?_
  refine C.ctrue rfl ?_
  refine C.seq ?_
  refine C.region ?_
  refine R.ev rfl (E.buildS rfl Try.underlying29 Try.zr29 Try.pl29 rfl) ?_
  first | refine R.cstoreAll hs rfl rfl Try.sz29 (by first | rfl | assumption | exact encV_len _ | exact Enc.len _ | exact len_ub (by assumption) | simp [*]) (by first | rfl | assumption | exact encV_len _ | exact Enc.len _ | exact len_ub (by assumption) | simp [*]) (by first | assumption | exact OneL.all | exact Enc.one _ | exact ub_all _ | (repeat' (first | refine List.forall_mem_cons.2 ⟨?_, ?_⟩ | exact List.forall_mem_nil _ | rfl | exact OneC.one | exact KRow.oneC' (by assumption)))) ?_ | refine R.cstore hs rfl rfl Try.sz29 (by first | rfl | assumption | exact encV_len _ | exact Enc.len _ | exact len_ub (by assumption) | simp [*]) (by simp [*]) (by first | assumption | exact OneL.all | exact Enc.one _ | exact ub_all _ | (repeat' (first | refine List.forall_mem_cons.2 ⟨?_, ?_⟩ | exact List.forall_mem_nil _ | rfl | exact OneC.one | exact KRow.oneC' (by assumption)))) ?_
  intro w2_1 hs
  try simp only [List.set_cons_zero, List.set_cons_succ] at hs
  refine R.ev rfl (E.assign rfl) ?_
  refine R.done ?_
  refine X.keep [(4, _), (5, _)] ⟨rfl, rfl, trivial⟩ ?_
  refine X.next ?_
  refine C.ret ?_
  refine X.thenRet ?_
  refine X.resCT rfl rfl Try.underlying29 rfl Try.sz29 (by first | exact ⟨hs.ldA, by first | rfl | assumption | exact encV_len _ | exact Enc.len _ | exact len_ub (by assumption)⟩ | exact ⟨hs.ldP rfl, by first | rfl | assumption | exact encV_len _ | exact Enc.len _ | exact len_ub (by assumption)⟩ | exact ⟨by assumption, by first | rfl | assumption | exact encV_len _ | exact Enc.len _ | exact len_ub (by assumption)⟩) rfl ?_
  exact ⟨rfl, hs.to⟩
theorem nadd_any (x : HEnt) (hs : Sat K w Hs) : Ret Try.prog 20 #[.pointer none, evH x] w fun r w' => r = .int .i64 1 ∧ Sat K w' Hs := by
  refine Ret.enter (n := 48) (args := [.pointer none, evH x]) Try.func20 rfl rfl ?_
  refine C.keep [(0, _), (1, _)] ⟨rfl, rfl, trivial⟩ ?_
  refine C.seq ?_
  refine C.region ?_
  refine R.sboxA hs rfl rfl ?_
  intro b3 w3 hs
  refine R.ev rfl (E.assign rfl) ?_
  refine R.done ?_
  refine X.keep [(0, _), (3, _)] ⟨rfl, rfl, trivial⟩ ?_
  refine X.next ?_
  refine C.seq ?_
  refine C.seq ?_
  refine C.region ?_
  refine R.ev rfl (E.move rfl) ?_
  refine R.ev rfl (E.eqlNilT rfl rfl Try.underlying35) ?_
  refine R.done ?_
  refine X.keep [(0, _), (3, _), (9, _)] ⟨rfl, rfl, rfl, trivial⟩ ?_
  refine X.next ?_
  refine C.ctrue rfl ?_
  refine C.seq ?_
  refine C.region ?_
  refine R.ev rfl (E.assign rfl) ?_
  refine R.done ?_
  refine X.keep [(4, _)] ⟨rfl, trivial⟩ ?_
  refine X.next ?_
  refine C.ret ?_
  refine X.thenRet ?_
  refine X.ret1 rfl rfl ?_
  exact ⟨rfl, hs.to⟩
theorem njudge_any (a : Vec 32) (date now : Int) (pm : Bool) (hs : Sat K w Hs) : Ret Try.prog 18 #[.pointer none, idV a.1, .int .i64 date, .int .i64 now, .bool pm] w fun r w' => r = .int .i64 1 ∧ Sat K w' Hs := by
  have e1 := encV_len a
  refine Ret.enter (n := 52) (args := [.pointer none, idV a.1, .int .i64 date, .int .i64 now, .bool pm]) Try.func18 rfl rfl ?_
  refine C.keep [(0, _), (1, _), (2, _), (3, _), (4, _)] ⟨rfl, rfl, rfl, rfl, rfl, trivial⟩ ?_
  refine C.seq ?_
  refine C.region ?_
  refine R.sboxA hs rfl rfl ?_
  intro b6 w6 hs
  refine R.ev rfl (E.assign rfl) ?_
  refine R.done ?_
  refine X.keep [(0, _), (2, _), (3, _), (4, _), (6, _)] ⟨rfl, rfl, rfl, rfl, rfl, trivial⟩ ?_
  refine X.next ?_
  refine C.seq ?_
  refine C.seq ?_
  refine C.region ?_
  refine R.ev rfl (E.move rfl) ?_
  refine R.ev rfl (E.eqlNilT rfl rfl Try.underlying35) ?_
  refine R.done ?_
  refine X.keep [(0, _), (2, _), (3, _), (4, _), (6, _), (14, _)] ⟨rfl, rfl, rfl, rfl, rfl, rfl, trivial⟩ ?_
  refine X.next ?_
  refine C.ctrue rfl ?_
  refine C.seq ?_
  refine C.region ?_
  refine R.ev rfl (E.assign rfl) ?_
  refine R.done ?_
  refine X.keep [(10, _)] ⟨rfl, trivial⟩ ?_
  refine X.next ?_
  refine C.ret ?_
  refine X.thenRet ?_
  refine X.ret1 rfl rfl ?_
  exact ⟨rfl, hs.to⟩
theorem ngone_any (a : Vec 32) (hs : Sat K w Hs) : Ret Try.prog 21 #[.pointer none, idV a.1] w fun r w' => r = .int .i64 1 ∧ Sat K w' Hs := by
  have e1 := encV_len a
  refine Ret.enter (n := 30) (args := [.pointer none, idV a.1]) Try.func21 rfl rfl ?_
  refine C.keep [(0, _), (1, _)] ⟨rfl, rfl, trivial⟩ ?_
  refine C.seq ?_
  refine C.region ?_
  refine R.sboxA hs rfl rfl ?_
  intro b3 w3 hs
  refine R.ev rfl (E.assign rfl) ?_
  refine R.done ?_
  refine X.keep [(0, _), (3, _)] ⟨rfl, rfl, trivial⟩ ?_
  refine X.next ?_
  refine C.seq ?_
  refine C.seq ?_
  refine C.region ?_
  refine R.ev rfl (E.move rfl) ?_
  refine R.ev rfl (E.eqlNilT rfl rfl Try.underlying35) ?_
  refine R.done ?_
  refine X.keep [(0, _), (3, _), (8, _)] ⟨rfl, rfl, rfl, trivial⟩ ?_
  refine X.next ?_
  refine C.ctrue rfl ?_
  refine C.seq ?_
  refine C.region ?_
  refine R.ev rfl (E.assign rfl) ?_
  refine R.done ?_
  refine X.keep [(4, _)] ⟨rfl, trivial⟩ ?_
  refine X.next ?_
  refine C.ret ?_
  refine X.thenRet ?_
  refine X.ret1 rfl rfl ?_
  exact ⟨rfl, hs.to⟩
theorem nforget_any (now : Int) (hs : Sat K w Hs) : Ret Try.prog 22 #[.pointer none, .int .i64 now] w fun r w' => r = .slice none 0 0 ∧ Sat K w' Hs := by
  refine Ret.enter (n := 63) (args := [.pointer none, .int .i64 now]) Try.func22 rfl rfl ?_
  refine C.keep [(0, _), (1, _)] ⟨rfl, rfl, trivial⟩ ?_
  refine C.seq ?_
  refine C.region ?_
  refine R.sbox1 hs rfl rfl rfl ?_
  intro b3 w3 hs
  refine R.ev rfl (E.assign rfl) ?_
  refine R.done ?_
  refine X.keep [(0, _), (3, _)] ⟨rfl, rfl, trivial⟩ ?_
  refine X.next ?_
  refine C.seq ?_
  refine C.seq ?_
  refine C.region ?_
  refine R.ev rfl (E.move rfl) ?_
  refine R.ev rfl (E.eqlNilT rfl rfl Try.underlying35) ?_
  refine R.ev rfl (E.move rfl) ?_
  refine R.gskip rfl rfl rfl ?_
  refine R.gskip rfl rfl rfl ?_
  refine R.gskip rfl rfl rfl ?_
  refine R.ev rfl (E.pickT rfl rfl) ?_
  refine R.done ?_
  refine X.keep [(0, _), (3, _), (15, _)] ⟨rfl, rfl, rfl, trivial⟩ ?_
  refine X.next ?_
  refine C.ctrue rfl ?_
  refine C.seq ?_
  refine C.region ?_
  refine R.ev rfl (E.assign rfl) ?_
  refine R.done ?_
  refine X.keep [(4, _)] ⟨rfl, trivial⟩ ?_
  refine X.next ?_
  refine C.ret ?_
  refine X.thenRet ?_
  refine X.ret1 rfl rfl ?_
  exact ⟨rfl, hs.to⟩
theorem nsince_any (mi : Int) (hs : Sat K w Hs) : Ret Try.prog 34 #[.pointer none, .int .i64 mi] w fun r w' => r = .slice none 0 0 ∧ Sat K w' Hs := by
  refine Ret.enter (n := 12) (args := [.pointer none, .int .i64 mi]) Try.func34 rfl rfl ?_
  refine C.keep [(0, _), (1, _)] ⟨rfl, rfl, trivial⟩ ?_
  refine C.seq ?_
  refine C.region ?_
  refine R.sbox1 hs rfl rfl rfl ?_
  intro b3 w3 hs
  refine R.ev rfl (E.assign rfl) ?_
  refine R.done ?_
  refine X.keep [(0, _), (3, _)] ⟨rfl, rfl, trivial⟩ ?_
  refine X.next ?_
  refine C.seq ?_
  refine C.region ?_
  refine R.ev rfl (E.move rfl) ?_
  refine R.ev rfl (E.makeFunc rfl rfl) ?_
  refine R.call ⟨_, _, Try.func49, rfl, by kernel_rfl⟩ rfl rfl (nsorted_any hs) ?_
  rintro _ w6 ⟨rfl, hs⟩
  refine R.ev rfl (E.assign rfl) ?_
  refine R.done ?_
  refine X.keep [(5, _)] ⟨rfl, trivial⟩ ?_
  refine X.next ?_
  refine C.seq ?_
  refine C.region ?_
  refine R.ev rfl (E.move rfl) ?_
  have r0 : RowL 29 encH 36 (.slice none 0 0) ([] : List HEnt) [] := RowL.nil _ _ _
  refine R.call ⟨_, _, Try.func55, rfl, by kernel_rfl⟩ rfl rfl (hesort_any since2_ok ltA_swo hs.nil (by simp)) ?_
  rintro _ w9 ⟨L3, F3, r3, hp3, hso, hs⟩
  refine R.done ?_
  refine X.keep [(5, _)] ⟨rfl, trivial⟩ ?_
  refine X.next ?_
  refine C.seq ?_
  refine C.region ?_
  refine R.ev rfl (E.move rfl) ?_
  refine R.ev rfl (E.assign rfl) ?_
  refine R.done ?_
  refine X.keep [(4, _)] ⟨rfl, trivial⟩ ?_
  refine X.next ?_
  refine C.ret ?_
  refine X.ret1 rfl rfl ?_
  exact ⟨rfl, hs.to⟩
theorem nlen_any (hs : Sat K w Hs) : Ret Try.prog 25 #[.pointer none] w fun r w' => r = .int .i64 0 ∧ Sat K w' Hs := by
  refine Ret.enter (n := 10) (args := [.pointer none]) Try.func25 rfl rfl ?_
  refine C.keep [(0, _)] ⟨rfl, trivial⟩ ?_
  refine C.seq ?_
  refine C.region ?_
  refine R.ev rfl (E.assign rfl) ?_
  refine R.done ?_
  refine X.keep [(0, _)] ⟨rfl, trivial⟩ ?_
  refine X.next ?_
  refine C.seq ?_
  refine C.seq ?_
  refine C.region ?_
  refine R.ev rfl (E.move rfl) ?_
  refine R.ev rfl (E.eqlNilT rfl rfl Try.underlying35) ?_
  refine R.done ?_
  refine X.keep [(0, _), (4, _)] ⟨rfl, rfl, trivial⟩ ?_
  refine X.next ?_
  refine C.ctrue rfl ?_
  refine C.seq ?_
  refine C.region ?_
  refine R.ev rfl (E.assign rfl) ?_
  refine R.done ?_
  refine X.keep [(2, _)] ⟨rfl, trivial⟩ ?_
  refine X.next ?_
  refine C.ret ?_
  refine X.thenRet ?_
  refine X.ret1 rfl rfl ?_
  exact ⟨rfl, hs.to⟩
theorem ncount_any (st : Int) (hs : Sat K w Hs) : Ret Try.prog 31 #[.pointer none, .int .i64 st] w fun r w' => r = .int .i64 0 ∧ Sat K w' Hs := by
  refine Ret.enter (n := 9) (args := [.pointer none, .int .i64 st]) Try.func31 rfl rfl ?_
  refine C.keep [(0, _), (1, _)] ⟨rfl, rfl, trivial⟩ ?_
  refine C.seq ?_
  refine C.region ?_
  refine R.sbox1 hs rfl rfl rfl ?_
  intro b3 w3 hs
  refine R.ev rfl (E.assign rfl) ?_
  refine R.done ?_
  refine X.keep [(0, _), (3, _)] ⟨rfl, rfl, trivial⟩ ?_
  refine X.next ?_
  refine C.seq ?_
  refine C.region ?_
  refine R.ev rfl (E.move rfl) ?_
  refine R.ev rfl (E.makeFunc rfl rfl) ?_
  refine R.call ⟨_, _, Try.func49, rfl, by kernel_rfl⟩ rfl rfl (nsorted_any hs) ?_
  rintro _ w6 ⟨rfl, hs⟩
  refine R.ev rfl (E.lenSl rfl Try.underlying65) ?_
  refine R.ev rfl (E.assign rfl) ?_
  refine R.done ?_
  refine X.keep [(4, _)] ⟨rfl, trivial⟩ ?_
  refine X.next ?_
  refine C.ret ?_
  refine X.ret1 rfl rfl ?_
  exact ⟨rfl, hs.to⟩
theorem nencode_any (hs : Sat K w Hs) : Ret Try.prog 38 #[.pointer none] w fun r w' => r = .slice none 0 0 ∧ Sat K w' Hs := by
  refine Ret.enter (n := 40) (args := [.pointer none]) Try.func38 rfl rfl ?_
  refine C.keep [(0, _)] ⟨rfl, trivial⟩ ?_
  refine C.seq ?_
  refine C.region ?_
  refine R.ev rfl (E.assign rfl) ?_
  refine R.done ?_
  refine X.keep [(0, _)] ⟨rfl, trivial⟩ ?_
  refine X.next ?_
  refine C.seq ?_
  refine C.seq ?_
  refine C.region ?_
  refine R.ev rfl (E.move rfl) ?_
  refine R.ev rfl (E.eqlNilT rfl rfl Try.underlying35) ?_
  refine R.done ?_
  refine X.keep [(0, _), (7, _)] ⟨rfl, rfl, trivial⟩ ?_
  refine X.next ?_
  refine C.ctrue rfl ?_
  refine C.seq ?_
  refine C.region ?_
  refine R.ev rfl (E.assign rfl) ?_
  refine R.done ?_
  refine X.keep [(2, _)] ⟨rfl, trivial⟩ ?_
  refine X.next ?_
  refine C.ret ?_
  refine X.thenRet ?_
  refine X.ret1 rfl rfl ?_
  exact ⟨rfl, hs.to⟩
theorem ncutoff_any (hs : Sat K w Hs) : Ret Try.prog 26 #[.pointer none] w fun r w' => r = .int .i64 0 ∧ Sat K w' Hs := by
  refine Ret.enter (n := 9) (args := [.pointer none]) Try.func26 rfl rfl ?_
  refine C.keep [(0, _)] ⟨rfl, trivial⟩ ?_
  refine C.seq ?_
  refine C.region ?_
  refine R.ev rfl (E.assign rfl) ?_
  refine R.done ?_
  refine X.keep [(0, _)] ⟨rfl, trivial⟩ ?_
  refine X.next ?_
  refine C.seq ?_
  refine C.seq ?_
  refine C.region ?_
  refine R.ev rfl (E.move rfl) ?_
  refine R.ev rfl (E.eqlNilT rfl rfl Try.underlying35) ?_
  refine R.done ?_
  refine X.keep [(0, _), (4, _)] ⟨rfl, rfl, trivial⟩ ?_
  refine X.next ?_
  refine C.ctrue rfl ?_
  refine C.seq ?_
  refine C.region ?_
  refine R.ev rfl (E.assign rfl) ?_
  refine R.done ?_
  refine X.keep [(2, _)] ⟨rfl, trivial⟩ ?_
  refine X.next ?_
  refine C.ret ?_
  refine X.thenRet ?_
  refine X.ret1 rfl rfl ?_
  exact ⟨rfl, hs.to⟩
theorem nclone_any (hs : Sat K w Hs) : Ret Try.prog 33 #[.pointer none] w fun r w' => r = .pointer none ∧ Sat K w' Hs := by
  refine Ret.enter (n := 16) (args := [.pointer none]) Try.func33 rfl rfl ?_
  refine C.keep [(0, _)] ⟨rfl, trivial⟩ ?_
  refine C.seq ?_
  refine C.region ?_
  refine R.ev rfl (E.assign rfl) ?_
  refine R.done ?_
  refine X.keep [(0, _)] ⟨rfl, trivial⟩ ?_
  refine X.next ?_
  refine C.seq ?_
  refine C.seq ?_
  refine C.region ?_
  refine R.ev rfl (E.move rfl) ?_
  refine R.ev rfl (E.eqlNilT rfl rfl Try.underlying35) ?_
  refine R.done ?_
  refine X.keep [(0, _), (4, _)] ⟨rfl, rfl, trivial⟩ ?_
  refine X.next ?_
  refine C.ctrue rfl ?_
  refine C.seq ?_
  refine C.region ?_
  refine R.ev rfl (E.assign rfl) ?_
  refine R.done ?_
  refine X.keep [(2, _)] ⟨rfl, trivial⟩ ?_
  refine X.next ?_
  refine C.ret ?_
  refine X.thenRet ?_
  refine X.ret1 rfl rfl ?_
  exact ⟨rfl, hs.to⟩
theorem nequal_any (hs : Sat K w Hs) : Ret Try.prog 32 #[.pointer none, .pointer none] w fun r w' => r = .bool true ∧ Sat K w' Hs := by
  refine Ret.enter (n := 37) (args := [.pointer none, .pointer none]) Try.func32 rfl rfl ?_
  refine C.keep [(0, _), (1, _)] ⟨rfl, rfl, trivial⟩ ?_
  refine C.seq ?_
  refine C.region ?_
  refine R.ev rfl (E.assign rfl) ?_
  refine R.done ?_
  refine X.keep [(0, _), (1, _)] ⟨rfl, rfl, trivial⟩ ?_
  refine X.next ?_
  refine C.seq ?_
  refine C.seq ?_
  refine C.region ?_
  refine R.ev rfl (E.move rfl) ?_
  refine R.ev rfl (E.eqlNilT rfl rfl Try.underlying35) ?_
  refine R.ev rfl (E.move rfl) ?_
  refine R.gskip rfl rfl rfl ?_
  refine R.gskip rfl rfl rfl ?_
  refine R.ev rfl (E.pickT rfl rfl) ?_
  refine R.done ?_
  refine X.keep [(0, _), (1, _), (10, _)] ⟨rfl, rfl, rfl, trivial⟩ ?_
  refine X.next ?_
  refine C.ctrue rfl ?_
  refine C.seq ?_
  refine C.region ?_
  refine R.ev rfl (E.move rfl) ?_
  refine R.ev rfl (E.eqlNilT rfl rfl Try.underlying35) ?_
  refine R.ev rfl (E.move rfl) ?_
  refine R.gyes rfl rfl ?_
  refine R.ev rfl (E.move rfl) ?_
  refine R.gyes rfl rfl ?_
  refine R.ev rfl (E.eqlNilT rfl rfl Try.underlying35) ?_
  refine R.ev rfl (E.pickT rfl rfl) ?_
  refine R.ev rfl (E.assign rfl) ?_
  refine R.done ?_
  refine X.keep [(4, _)] ⟨rfl, trivial⟩ ?_
  refine X.next ?_
  refine C.ret ?_
  refine X.thenRet ?_
  refine X.ret1 rfl rfl ?_
  exact ⟨rfl, hs.to⟩

theorem nil_walk (w : World) (v0 : Value) (a0 : ArgV Try.prog w 24 v0) (v1 : Value) (a1 : ArgV Try.prog w 3 v1) : Ret Try.prog 12 #[v0, v1] w fun r w' => r = .bool true ∧ Mod [] w w' := by
  obtain ⟨x, rfl⟩ := argv_x a0
  obtain ⟨now, rfl, _⟩ := argv_int a1 Try.underlying3
  have hs := Sat.start w
  refine Ret.enter (n := 97) (args := [evH x, .int .i64 now]) Try.func12 rfl rfl ?_
  refine C.keep [(0, _), (1, _)] ⟨rfl, rfl, trivial⟩ ?_
  refine C.seq ?_
  refine C.region ?_
  refine R.sboxA hs rfl rfl ?_
  intro b2 w2 hs
  refine R.ev rfl (E.assign rfl) ?_
  refine R.done ?_
  refine X.keep [(1, _), (2, _)] ⟨rfl, rfl, trivial⟩ ?_
  refine X.next ?_
  refine C.seq ?_
  refine C.seq ?_
  refine C.region ?_
  refine R.call ⟨_, _, Try.func13, rfl, by kernel_rfl⟩ rfl rfl (known_any hs) ?_
  rintro _ w1 ⟨rfl, hs⟩
  refine R.ev rfl (E.notT rfl) ?_
  refine R.done ?_
  refine X.keep [(1, _), (2, _), (10, _)] ⟨rfl, rfl, rfl, trivial⟩ ?_
  refine X.next ?_
  refine C.cfalse rfl ?_
  refine C.skip ?_
  refine X.next ?_
  refine C.seq ?_
  refine C.region ?_
  refine R.ev rfl (E.assign rfl) ?_
  refine R.done ?_
  refine X.keep [(1, _), (2, _), (5, _)] ⟨rfl, rfl, rfl, trivial⟩ ?_
  refine X.next ?_
  refine C.seq ?_
  refine C.region ?_
  refine R.salloc1 hs Try.zr3 rfl rfl ?_
  intro b6 w6 hs
  refine R.cstore1 hs rfl rfl Try.sz3 (by first | decide | simp [*]) (by first | rfl | exact OneC.one | exact KRow.oneC' (by assumption)) ?_
  intro w4_1 hs
  try simp only [List.set_cons_zero, List.set_cons_succ] at hs
  refine R.done ?_
  refine X.keep [(1, _), (2, _), (5, _), (6, _)] ⟨rfl, rfl, rfl, rfl, trivial⟩ ?_
  refine X.next ?_
  refine C.seq ?_
  refine C.seq ?_
  refine C.region ?_
  refine R.ev rfl (E.move rfl) ?_
  refine R.call ⟨_, _, Try.func23, rfl, by kernel_rfl⟩ rfl rfl (all_any (.pointer none) rfl hs) ?_
  rintro _ w5 ⟨bA, rfl, hs⟩
  refine R.done ?_
  refine X.keep [(1, _), (2, _), (5, _), (6, _), (12, _)] ⟨rfl, rfl, rfl, rfl, rfl, trivial⟩ ?_
  refine X.next ?_
  refine C.block ?_
  refine C.rangeL (σ := Unit) (fun _ G => G = row b6 3 [.int .i64 0]) (fun _ _ => ()) (fun _ => none) (()) rfl rfl ⟨_, _, Try.func48, rfl, by kernel_rfl⟩ rfl (nall1_iter (Hs := row b6 3 [.int .i64 0] :: row bA 35 [.pointer none] :: row b2 24 (encH x) :: []) inferInstance) (hs.to) (rfl) rfl ?_ ?_
  · rintro l c s1 G1 R1 pre y post w1 hx _ _ rfl hs
    refine C.keep [(1, _), (2, _), (5, _), (6, _), (13, _)] ⟨rfl, rfl, rfl, rfl, rfl, trivial⟩ ?_
    refine C.skip ?_
    refine X.begin_ (c := c) (pd := none) hs ?_
    intro wb0 hs
    refine C.keep [(1, _), (2, _), (5, _), (6, _)] ⟨rfl, rfl, rfl, rfl, trivial⟩ ?_
    refine C.block ?_
    refine C.region ?_
    refine R.ev rfl (E.load1 rfl Try.underlying3 rfl (by first | exact hs.ldc | exact hs.ld rfl | exact hs.ld (by assumption) | exact by assumption | exact At.cellC (by assumption))) ?_
    refine R.ev rfl (E.add rfl rfl (by omega) (by omega)) ?_
    refine R.cstore1 hs rfl rfl Try.sz3 (by first | decide | simp [*]) (by first | rfl | exact OneC.one | exact KRow.oneC' (by assumption)) ?_
    intro w6_2 hs
    try simp only [List.set_cons_zero, List.set_cons_succ] at hs
    refine R.done ?_
    refine X.keep [(1, _), (2, _), (5, _), (6, _)] ⟨rfl, rfl, rfl, rfl, trivial⟩ ?_
    refine X.blockNormal ?_
    refine X.rndEnd (c := c) (st := .busy) (pd := none) hs ?_
    intro we0 hs
    exact absurd hx (by simp)
  · rintro D0 G2 w2 rfl hs
    show X _ .normal _ _ _
    have hs : Sat (Kn.of w) w2 (row b6 3 [.int .i64 0] :: dfP D0 (some []) :: row b2 24 (encH x) :: []) := hs.to
    refine X.keep [(1, _), (2, _), (5, _), (6, _)] ⟨rfl, rfl, rfl, rfl, trivial⟩ ?_
    refine X.blockNormal ?_
    refine X.next ?_
    refine C.seq ?_
    refine C.region ?_
    refine R.ev rfl (E.move rfl) ?_
    first | refine R.ev rfl (E.fieldAddr0 0 rfl Try.underlying24 rfl Try.sz22 rfl) ?_ | refine R.ev rfl (E.fieldAddrN 0 rfl Try.underlying24 rfl Try.sz22 rfl) ?_
    refine R.ev rfl (E.loadRowC rfl Try.underlying22 rfl Try.sz22 (by first | exact ⟨hs.ldA, by first | rfl | assumption | exact encV_len _ | exact Enc.len _ | exact len_ub (by assumption)⟩ | exact ⟨hs.ldP rfl, by first | rfl | assumption | exact encV_len _ | exact Enc.len _ | exact len_ub (by assumption)⟩ | exact ⟨hs.ldM rfl rfl, by first | rfl | assumption | exact encV_len _ | exact Enc.len _ | exact len_ub (by assumption)⟩ | exact ⟨hs.ldM (by assumption) (by first | rfl | assumption), by first | rfl | assumption | exact encV_len _ | exact Enc.len _ | exact len_ub (by assumption)⟩ | exact ⟨by assumption, by first | rfl | assumption | exact encV_len _ | exact Enc.len _ | exact len_ub (by assumption)⟩ | exact hs.ldp | exact At.partC (by assumption))) ?_
    refine R.call ⟨_, _, Try.func29, rfl, by kernel_rfl⟩ rfl rfl (nget_any x.id hs) ?_
    rintro _ w7 ⟨rfl, hs⟩
    refine R.ev rfl (E.move rfl) ?_
    refine R.ev rfl (E.extract rfl rfl) ?_
    refine R.ev rfl (E.extract rfl rfl) ?_
    refine R.sallocA hs Try.zr29 rfl ?_
    intro b7 w7 hs
    first | refine R.cstoreAll hs rfl rfl Try.sz29 (by first | rfl | assumption | exact encV_len _ | exact Enc.len _ | exact len_ub (by assumption) | simp [*]) (by first | rfl | assumption | exact encV_len _ | exact Enc.len _ | exact len_ub (by assumption) | simp [*]) (by first | assumption | exact OneL.all | exact Enc.one _ | exact ub_all _ | (repeat' (first | refine List.forall_mem_cons.2 ⟨?_, ?_⟩ | exact List.forall_mem_nil _ | rfl | exact OneC.one | exact KRow.oneC' (by assumption)))) ?_ | refine R.cstore hs rfl rfl Try.sz29 (by first | rfl | assumption | exact encV_len _ | exact Enc.len _ | exact len_ub (by assumption) | simp [*]) (by simp [*]) (by first | assumption | exact OneL.all | exact Enc.one _ | exact ub_all _ | (repeat' (first | refine List.forall_mem_cons.2 ⟨?_, ?_⟩ | exact List.forall_mem_nil _ | rfl | exact OneC.one | exact KRow.oneC' (by assumption)))) ?_
    intro w7_8 hs
    try simp only [List.set_cons_zero, List.set_cons_succ] at hs
    refine R.ev rfl (E.assign rfl) ?_
    refine R.done ?_
    refine X.keep [(1, _), (2, _), (5, _), (6, _), (8, _)] ⟨rfl, rfl, rfl, rfl, rfl, trivial⟩ ?_
    refine X.next ?_
    refine C.seq ?_
    refine C.region ?_
    refine R.ev rfl (E.load1 rfl Try.underlying3 rfl (by first | exact hs.ldc | exact hs.ld rfl | exact hs.ld (by assumption) | exact by assumption | exact At.cellC (by assumption))) ?_
    refine R.ev rfl ((E.eql rfl rfl).isT rfl) ?_
    refine R.ev rfl (E.move rfl) ?_
    refine R.gyes rfl rfl ?_
    refine R.ev rfl (E.move rfl) ?_
    refine R.gyes rfl rfl ?_
    refine R.ev rfl (E.notF rfl) ?_
    refine R.ev rfl (E.pickT rfl rfl) ?_
    refine R.ev rfl (E.move rfl) ?_
    refine R.gyes rfl rfl ?_
    refine R.ev rfl (E.move rfl) ?_
    refine R.gyes rfl rfl ?_
    refine R.ev rfl (E.loadRowC rfl Try.underlying24 rfl Try.sz24 (by first | exact ⟨hs.ldA, by first | rfl | assumption | exact encV_len _ | exact Enc.len _ | exact len_ub (by assumption)⟩ | exact ⟨hs.ldP rfl, by first | rfl | assumption | exact encV_len _ | exact Enc.len _ | exact len_ub (by assumption)⟩ | exact ⟨hs.ldM rfl rfl, by first | rfl | assumption | exact encV_len _ | exact Enc.len _ | exact len_ub (by assumption)⟩ | exact ⟨hs.ldM (by assumption) (by first | rfl | assumption), by first | rfl | assumption | exact encV_len _ | exact Enc.len _ | exact len_ub (by assumption)⟩ | exact ⟨by assumption, by first | rfl | assumption | exact encV_len _ | exact Enc.len _ | exact len_ub (by assumption)⟩ | exact hs.ldp | exact At.partC (by assumption))) ?_
    refine R.gyes rfl rfl ?_
    refine R.call ⟨_, _, Try.func14, rfl, by kernel_rfl⟩ rfl rfl (to_any x hs) ?_
    rintro _ w89 ⟨rfl, hs⟩
    refine R.gyes rfl rfl ?_
    refine R.call ⟨_, _, Try.func20, rfl, by kernel_rfl⟩ rfl rfl (nadd_any x hs) ?_
    rintro _ w810 ⟨rfl, hs⟩
    refine R.gyes rfl rfl ?_
    refine R.ev rfl ((E.eql rfl rfl).isT rfl) ?_
    refine R.ev rfl (E.pickT rfl rfl) ?_
    refine R.ev rfl (E.move rfl) ?_
    refine R.gyes rfl rfl ?_
    refine R.ev rfl (E.move rfl) ?_
    refine R.gyes rfl rfl ?_
    first | refine R.ev rfl (E.fieldAddr0 0 rfl Try.underlying24 rfl Try.sz22 rfl) ?_ | refine R.ev rfl (E.fieldAddrN 0 rfl Try.underlying24 rfl Try.sz22 rfl) ?_
    refine R.gyes rfl rfl ?_
    refine R.ev rfl (E.loadRowC rfl Try.underlying22 rfl Try.sz22 (by first | exact ⟨hs.ldA, by first | rfl | assumption | exact encV_len _ | exact Enc.len _ | exact len_ub (by assumption)⟩ | exact ⟨hs.ldP rfl, by first | rfl | assumption | exact encV_len _ | exact Enc.len _ | exact len_ub (by assumption)⟩ | exact ⟨hs.ldM rfl rfl, by first | rfl | assumption | exact encV_len _ | exact Enc.len _ | exact len_ub (by assumption)⟩ | exact ⟨hs.ldM (by assumption) (by first | rfl | assumption), by first | rfl | assumption | exact encV_len _ | exact Enc.len _ | exact len_ub (by assumption)⟩ | exact ⟨by assumption, by first | rfl | assumption | exact encV_len _ | exact Enc.len _ | exact len_ub (by assumption)⟩ | exact hs.ldp | exact At.partC (by assumption))) ?_
    refine R.gyes rfl rfl ?_
    first | refine R.ev rfl (E.fieldAddr0 33 rfl Try.underlying24 rfl Try.sz3 rfl) ?_ | refine R.ev rfl (E.fieldAddrN 33 rfl Try.underlying24 rfl Try.sz3 rfl) ?_
    refine R.gyes rfl rfl ?_
    refine R.ev rfl (E.load1 rfl Try.underlying3 rfl (by first | exact hs.ldc | exact hs.ld rfl | exact hs.ld (by assumption) | exact by assumption | exact At.cellC (by assumption))) ?_
    refine R.gyes rfl rfl ?_
    refine R.ev rfl (E.move rfl) ?_
    refine R.gyes rfl rfl ?_
    refine R.call ⟨_, _, Try.func18, rfl, by kernel_rfl⟩ rfl rfl (njudge_any x.id x.date now false hs) ?_
    rintro _ w820 ⟨rfl, hs⟩
    refine R.gyes rfl rfl ?_
    refine R.ev rfl ((E.eql rfl rfl).isT rfl) ?_
    refine R.ev rfl (E.pickT rfl rfl) ?_
    refine R.ev rfl (E.move rfl) ?_
    refine R.gyes rfl rfl ?_
    refine R.ev rfl (E.move rfl) ?_
    refine R.gyes rfl rfl ?_
    first | refine R.ev rfl (E.fieldAddr0 0 rfl Try.underlying24 rfl Try.sz22 rfl) ?_ | refine R.ev rfl (E.fieldAddrN 0 rfl Try.underlying24 rfl Try.sz22 rfl) ?_
    refine R.gyes rfl rfl ?_
    refine R.ev rfl (E.loadRowC rfl Try.underlying22 rfl Try.sz22 (by first | exact ⟨hs.ldA, by first | rfl | assumption | exact encV_len _ | exact Enc.len _ | exact len_ub (by assumption)⟩ | exact ⟨hs.ldP rfl, by first | rfl | assumption | exact encV_len _ | exact Enc.len _ | exact len_ub (by assumption)⟩ | exact ⟨hs.ldM rfl rfl, by first | rfl | assumption | exact encV_len _ | exact Enc.len _ | exact len_ub (by assumption)⟩ | exact ⟨hs.ldM (by assumption) (by first | rfl | assumption), by first | rfl | assumption | exact encV_len _ | exact Enc.len _ | exact len_ub (by assumption)⟩ | exact ⟨by assumption, by first | rfl | assumption | exact encV_len _ | exact Enc.len _ | exact len_ub (by assumption)⟩ | exact hs.ldp | exact At.partC (by assumption))) ?_
    refine R.gyes rfl rfl ?_
    refine R.call ⟨_, _, Try.func21, rfl, by kernel_rfl⟩ rfl rfl (ngone_any x.id hs) ?_
    rintro _ w827 ⟨rfl, hs⟩
    refine R.gyes rfl rfl ?_
    refine R.ev rfl ((E.eql rfl rfl).isT rfl) ?_
    refine R.ev rfl (E.pickT rfl rfl) ?_
    refine R.ev rfl (E.move rfl) ?_
    refine R.gyes rfl rfl ?_
    refine R.ev rfl (E.move rfl) ?_
    refine R.gyes rfl rfl ?_
    refine R.ev rfl (E.move rfl) ?_
    refine R.gyes rfl rfl ?_
    refine R.call ⟨_, _, Try.func22, rfl, by kernel_rfl⟩ rfl rfl (nforget_any now hs) ?_
    rintro _ w833 ⟨rfl, hs⟩
    refine R.gyes rfl rfl ?_
    refine R.ev rfl (E.lenSl rfl Try.underlying46) ?_
    refine R.gyes rfl rfl ?_
    refine R.ev rfl ((E.eql rfl rfl).isT rfl) ?_
    refine R.ev rfl (E.pickT rfl rfl) ?_
    refine R.ev rfl (E.move rfl) ?_
    refine R.gyes rfl rfl ?_
    refine R.ev rfl (E.move rfl) ?_
    refine R.gyes rfl rfl ?_
    refine R.ev rfl (E.move rfl) ?_
    refine R.gyes rfl rfl ?_
    refine R.call ⟨_, _, Try.func34, rfl, by kernel_rfl⟩ rfl rfl (nsince_any now hs) ?_
    rintro _ w840 ⟨rfl, hs⟩
    refine R.gyes rfl rfl ?_
    refine R.ev rfl (E.lenSl rfl Try.underlying65) ?_
    refine R.gyes rfl rfl ?_
    refine R.ev rfl ((E.eql rfl rfl).isT rfl) ?_
    refine R.ev rfl (E.pickT rfl rfl) ?_
    refine R.ev rfl (E.move rfl) ?_
    refine R.gyes rfl rfl ?_
    refine R.ev rfl (E.move rfl) ?_
    refine R.gyes rfl rfl ?_
    refine R.call ⟨_, _, Try.func25, rfl, by kernel_rfl⟩ rfl rfl (nlen_any hs) ?_
    rintro _ w846 ⟨rfl, hs⟩
    refine R.gyes rfl rfl ?_
    refine R.ev rfl ((E.eql rfl rfl).isT rfl) ?_
    refine R.ev rfl (E.pickT rfl rfl) ?_
    refine R.ev rfl (E.move rfl) ?_
    refine R.gyes rfl rfl ?_
    refine R.ev rfl (E.move rfl) ?_
    refine R.gyes rfl rfl ?_
    refine R.call ⟨_, _, Try.func31, rfl, by kernel_rfl⟩ rfl rfl (ncount_any 0 hs) ?_
    rintro _ w851 ⟨rfl, hs⟩
    refine R.gyes rfl rfl ?_
    refine R.ev rfl ((E.eql rfl rfl).isT rfl) ?_
    refine R.ev rfl (E.pickT rfl rfl) ?_
    refine R.ev rfl (E.move rfl) ?_
    refine R.gyes rfl rfl ?_
    refine R.ev rfl (E.move rfl) ?_
    refine R.gyes rfl rfl ?_
    refine R.call ⟨_, _, Try.func38, rfl, by kernel_rfl⟩ rfl rfl (nencode_any hs) ?_
    rintro _ w856 ⟨rfl, hs⟩
    refine R.gyes rfl rfl ?_
    refine R.ev rfl (E.lenSl rfl Try.underlying69) ?_
    refine R.gyes rfl rfl ?_
    refine R.ev rfl ((E.eql rfl rfl).isT rfl) ?_
    refine R.ev rfl (E.pickT rfl rfl) ?_
    refine R.ev rfl (E.move rfl) ?_
    refine R.gyes rfl rfl ?_
    refine R.ev rfl (E.move rfl) ?_
    refine R.gyes rfl rfl ?_
    refine R.call ⟨_, _, Try.func26, rfl, by kernel_rfl⟩ rfl rfl (ncutoff_any hs) ?_
    rintro _ w862 ⟨rfl, hs⟩
    refine R.gyes rfl rfl ?_
    refine R.ev rfl ((E.eql rfl rfl).isT rfl) ?_
    refine R.ev rfl (E.pickT rfl rfl) ?_
    refine R.ev rfl (E.move rfl) ?_
    refine R.gyes rfl rfl ?_
    refine R.ev rfl (E.move rfl) ?_
    refine R.gyes rfl rfl ?_
    refine R.call ⟨_, _, Try.func33, rfl, by kernel_rfl⟩ rfl rfl (nclone_any hs) ?_
    rintro _ w867 ⟨rfl, hs⟩
    refine R.gyes rfl rfl ?_
    refine R.ev rfl (E.eqlNilT rfl rfl Try.underlying35) ?_
    refine R.ev rfl (E.pickT rfl rfl) ?_
    refine R.ev rfl (E.move rfl) ?_
    refine R.gyes rfl rfl ?_
    refine R.ev rfl (E.move rfl) ?_
    refine R.gyes rfl rfl ?_
    refine R.call ⟨_, _, Try.func32, rfl, by kernel_rfl⟩ rfl rfl (nequal_any hs) ?_
    rintro _ w872 ⟨rfl, hs⟩
    refine R.ev rfl (E.pickT rfl rfl) ?_
    refine R.ev rfl (E.assign rfl) ?_
    refine R.done ?_
    refine X.keep [(4, _)] ⟨rfl, trivial⟩ ?_
    refine X.next ?_
    refine C.ret ?_
    refine X.mark (D := D0) hs ?_
    intro wm0 hs
    refine X.ret1 rfl rfl ?_
    exact ⟨rfl, hs.mod⟩

namespace historyNil
open Go.ChangeShapes Go.WideShapes Go.ChangeAt Go.RowKit
open Go.ChangeMaps (open_string shut_string)
set_option linter.unusedVariables false

theorem own : ownKnob Try.prog.godebug = none := by kernel_rfl
theorem laidOut : laidOutB Try.prog = true := by kernel_rfl
set_option maxRecDepth 100000 in
theorem lifted (os : Os) (started : os.Started) (H : Type) (enc : TypeId × Value → H) :
    ReturnsInHanded {} Try.checked os 12 .any (Rows.historyNilSpec.pre6 enc Try.prog Try.f12 Rows.historyNilRow.domain false) (Rows.historyNilSpec.post enc Try.prog Try.f12 false true false false) := by
  refine returnsInHanded_of_change (C := Try.checked) own started (by kernel_rfl) Try.func12
    (ChangeSpec.witness6 (enc := enc) (C := Try.checked) false ⟨#[], #[.agg #[.int .u8 0, .int .u8 0, .int .u8 0, .int .u8 0, .int .u8 0, .int .u8 0, .int .u8 0, .int .u8 0, .int .u8 0, .int .u8 0, .int .u8 0, .int .u8 0, .int .u8 0, .int .u8 0, .int .u8 0, .int .u8 0, .int .u8 0, .int .u8 0, .int .u8 0, .int .u8 0, .int .u8 0, .int .u8 0, .int .u8 0, .int .u8 0, .int .u8 0, .int .u8 0, .int .u8 0, .int .u8 0, .int .u8 0, .int .u8 0, .int .u8 0, .int .u8 0, .int .i64 0, .int .i64 0, .int .i64 0, .bool false], .int .i64 0], []⟩ 8 (by kernel_rfl) (by kernel_rfl) (by kernel_rfl) (by kernel_rfl)) ?_
  intro W base args ds gs before hval0 hW hcnd _
  have hval : ∀ (j : Nat) t v, Try.f12.params[j]? = some t → args[j]? = some v → Value.okWide Try.prog W .any base t v := hval0
  have hW' := hW
  obtain ⟨p, q, hA0, hV, rfl, hfz, hnd⟩ := hW
  have hA : DataW.TrodAll enc Try.prog W 0 (fun _ => true) true Try.f12.params.toList args.toList ds p := hA0
  rw [Try.params12] at hA hval
  obtain ⟨v0, vs0, d0, ds0, p0, q0, hargs, rfl, rfl, h0, r0⟩ := trodAll_cons hA
  obtain ⟨v1, vs1, d1, ds1, p1, q1, rfl, rfl, rfl, h1, r1⟩ := trodAll_cons r0
  obtain ⟨rfl, rfl, rfl⟩ := trodAll_nil r1
  obtain rfl : args = #[v0, v1] := by cases args; simp_all
  obtain ⟨rfl, rfl⟩ := trodVars_none hV
  have lt0 : ∀ x ∈ p0, x.block < W.heap.size := by obtain ⟨m, hm⟩ := h0; exact DataW.trod_lt m _ _ _ hm
  have a0 := Eng.argv_of (hval 0 24 v0 rfl rfl) h0
  have lt1 : ∀ x ∈ p1, x.block < W.heap.size := by obtain ⟨m, hm⟩ := h1; exact DataW.trod_lt m _ _ _ hm
  have a1 := Eng.argv_of (hval 1 3 v1 rfl rfl) h1
  clear hA0 hval0
  refine Calls.mono (nil_walk W v0 a0 v1 a1) fun e W' ⟨v, he, hv, hm⟩ => ?_
  subst he
  subst hv
  have bel := hm.below
  exact ⟨_, rfl, _, _, _, [], _, [], hW', trodAll_mk1 (shut_bool Try.underlying4 _), (trodAll_cons_mk (Below.trod laidOut (by kernel_rfl) (of_decide_eq_true (by kernel_rfl)) h0 bel lt0) (trodAll_cons_mk (Below.trod laidOut (by kernel_rfl) (of_decide_eq_true (by kernel_rfl)) h1 bel lt1) trodAll_mk0)), rfl, bel.frame _, fun h => by cases h⟩

theorem over : Rows.historyNilRow.holds Try.pinned (OpenSpec.ofChange Rows.historyNilSpec) :=
  OpenClaim.holds_of_wide 12 Try.f12 rfl rfl rfl rfl rfl rfl rfl ⟨rfl, rfl, rfl, rfl, rfl⟩ rfl rfl rfl rfl rfl (by kernel_rfl) Try.func12 (by kernel_rfl)
    (of_decide_eq_true (by kernel_rfl)) (by unfold Func.isWrapper; first | (rw [if_pos (by decide +kernel)]; kernel_rfl) | (rw [if_neg (by decide +kernel)]; exact ⟨rfl, rfl⟩))
    (fun os started H enc _ => lifted os started H enc)
end historyNil
/-- the statement -/
theorem historyNil_holds : Rows.HistoryNilSaid := historyNil.over
#print axioms historyNil_holds
end Go.Proofs.Ytobhhnfckhbeeaa
