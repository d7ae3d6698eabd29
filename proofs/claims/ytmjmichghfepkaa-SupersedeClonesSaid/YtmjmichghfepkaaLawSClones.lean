/-
  SupersedeClones returns true for every input. No condition.
-/
import Derived.Test.YtmjmichghfepkaaRows
import Derived.Test.YtmjmichghfepkaaSupQ
namespace Go.Proofs.Ytmjmichghfepkaa
open Go.Eng Go.RowKit Go.Sort
section
variable {K : Kn} {Hs Rs : List Hl} {F : Hl} {w : World}
set_option maxRecDepth 100000 in
theorem nhas_any (a : Vec 32) (hs : Sat K w Hs) : Ret Try.prog 32 #[.pointer none, idV a.1] w fun r w' => r = .bool false ∧ Sat K w' Hs := by
  have e1 := encV_len a
  refine Ret.enter (n := 19) (args := [.pointer none, idV a.1]) Try.func32 rfl rfl ?_
  refine C.keep [(0, _), (1, _)] ⟨rfl, rfl, trivial⟩ ?_
  refine C.seq ?_
  refine C.region ?_
  refine R.sboxA hs rfl rfl ?_
  intro b3 w3 hs
  refine R.ev rfl (E.assign rfl) ?_
  refine R.done ?_
  refine X.keep [(0, _), (3, _)] ⟨rfl, rfl, trivial⟩ ?_
  refine X.next ?_
  refine C.seq ?_
  refine C.seq ?_
  refine C.region ?_
  refine R.ev rfl (E.move rfl) ?_
  refine R.ev rfl (E.eqlNilT rfl rfl Try.underlying54) ?_
  refine R.done ?_
  refine X.keep [(0, _), (3, _), (8, _)] ⟨rfl, rfl, rfl, trivial⟩ ?_
  refine X.next ?_
  refine C.ctrue rfl ?_
  refine C.seq ?_
  refine C.region ?_
  refine R.ev rfl (E.assign rfl) ?_
  refine R.done ?_
  refine X.keep [(4, _)] ⟨rfl, trivial⟩ ?_
  refine X.next ?_
  refine C.ret ?_
  refine X.thenRet ?_
  refine X.ret1 rfl rfl ?_
  exact ⟨rfl, hs.to⟩
theorem nadd_any (y : RA) (hs : Sat K w Hs) : Ret Try.prog 29 #[.pointer none, evA y] w fun r w' => r = .int .i64 1 ∧ Sat K w' Hs := by
  refine Ret.enter (n := 41) (args := [.pointer none, evA y]) Try.func29 rfl rfl ?_
  refine C.keep [(0, _), (1, _)] ⟨rfl, rfl, trivial⟩ ?_
  refine C.seq ?_
  refine C.region ?_
  refine R.sboxA hs rfl rfl ?_
  intro b3 w3 hs
  refine R.ev rfl (E.assign rfl) ?_
  refine R.done ?_
  refine X.keep [(0, _), (3, _)] ⟨rfl, rfl, trivial⟩ ?_
  refine X.next ?_
  refine C.seq ?_
  refine C.block ?_
  refine C.seq ?_
  refine C.region ?_
  refine R.ev rfl (E.move rfl) ?_
  refine R.ev rfl (E.eqlNilT rfl rfl Try.underlying54) ?_
  refine R.ev rfl (E.assign rfl) ?_
  refine R.done ?_
  refine X.keep [(0, _), (3, _), (5, _)] ⟨rfl, rfl, rfl, trivial⟩ ?_
  refine X.next ?_
  refine C.ctrue rfl ?_
  refine C.seq ?_
  refine C.region ?_
  refine R.ev rfl (E.assign rfl) ?_
  refine R.done ?_
  refine X.keep [(4, _)] ⟨rfl, trivial⟩ ?_
  refine X.next ?_
  refine C.ret ?_
  refine X.blockRet ?_
  refine X.thenRet ?_
  refine X.ret1 rfl rfl ?_
  exact ⟨rfl, hs.to⟩
theorem ndrop_any (a : Vec 32) (hs : Sat K w Hs) : Ret Try.prog 31 #[.pointer none, idV a.1] w fun r w' => r = .int .i64 1 ∧ Sat K w' Hs := by
  have e1 := encV_len a
  refine Ret.enter (n := 18) (args := [.pointer none, idV a.1]) Try.func31 rfl rfl ?_
  refine C.keep [(0, _), (1, _)] ⟨rfl, rfl, trivial⟩ ?_
  refine C.seq ?_
  refine C.region ?_
  refine R.sboxA hs rfl rfl ?_
  intro b3 w3 hs
  refine R.ev rfl (E.assign rfl) ?_
  refine R.done ?_
  refine X.keep [(0, _), (3, _)] ⟨rfl, rfl, trivial⟩ ?_
  refine X.next ?_
  refine C.seq ?_
  refine C.block ?_
  refine C.seq ?_
  refine C.region ?_
  refine R.ev rfl (E.move rfl) ?_
  refine R.ev rfl (E.eqlNilT rfl rfl Try.underlying54) ?_
  refine R.ev rfl (E.assign rfl) ?_
  refine R.done ?_
  refine X.keep [(0, _), (3, _), (5, _)] ⟨rfl, rfl, rfl, trivial⟩ ?_
  refine X.next ?_
  refine C.ctrue rfl ?_
  refine C.seq ?_
  refine C.region ?_
  refine R.ev rfl (E.assign rfl) ?_
  refine R.done ?_
  refine X.keep [(4, _)] ⟨rfl, trivial⟩ ?_
  refine X.next ?_
  refine C.ret ?_
  refine X.blockRet ?_
  refine X.thenRet ?_
  refine X.ret1 rfl rfl ?_
  exact ⟨rfl, hs.to⟩
theorem nisWd_any (a : Vec 32) (hs : Sat K w Hs) : Ret Try.prog 27 #[.pointer none, idV a.1] w fun r w' => r = .bool false ∧ Sat K w' Hs := by
  have e1 := encV_len a
  refine Ret.enter (n := 35) (args := [.pointer none, idV a.1]) Try.func27 rfl rfl ?_
  refine C.keep [(0, _), (1, _)] ⟨rfl, rfl, trivial⟩ ?_
  refine C.seq ?_
  refine C.region ?_
  refine R.sboxA hs rfl rfl ?_
  intro b3 w3 hs
  refine R.ev rfl (E.assign rfl) ?_
  refine R.done ?_
  refine X.keep [(0, _), (3, _)] ⟨rfl, rfl, trivial⟩ ?_
  refine X.next ?_
  refine C.seq ?_
  refine C.seq ?_
  refine C.region ?_
  refine R.ev rfl (E.move rfl) ?_
  refine R.ev rfl (E.loadRowC rfl Try.underlying37 rfl Try.sz37 (by first | exact ⟨hs.ldA, by first | rfl | assumption | exact encV_len _ | exact Enc.len _ | exact len_ub (by assumption)⟩ | exact ⟨hs.ldP rfl, by first | rfl | assumption | exact encV_len _ | exact Enc.len _ | exact len_ub (by assumption)⟩ | exact ⟨hs.ldM rfl rfl, by first | rfl | assumption | exact encV_len _ | exact Enc.len _ | exact len_ub (by assumption)⟩ | exact ⟨hs.ldM (by assumption) (by first | rfl | assumption), by first | rfl | assumption | exact encV_len _ | exact Enc.len _ | exact len_ub (by assumption)⟩ | exact ⟨by assumption, by first | rfl | assumption | exact encV_len _ | exact Enc.len _ | exact len_ub (by assumption)⟩ | exact hs.ldp | exact At.partC (by assumption))) ?_
  refine R.call ⟨_, _, Try.func32, rfl, by kernel_rfl⟩ rfl rfl (nhas_any a hs) ?_
  rintro _ w1 ⟨rfl, hs⟩
  refine R.ev rfl ((E.not rfl).isB (c := true) rfl) ?_
  refine R.done ?_
  refine X.keep [(0, _), (3, _), (11, _)] ⟨rfl, rfl, rfl, trivial⟩ ?_
  refine X.next ?_
  refine C.ctrue rfl ?_
  refine C.seq ?_
  refine C.region ?_
  refine R.ev rfl (E.assign rfl) ?_
  refine R.done ?_
  refine X.keep [(4, _)] ⟨rfl, trivial⟩ ?_
  refine X.next ?_
  refine C.ret ?_
  refine X.thenRet ?_
  refine X.ret1 rfl rfl ?_
  exact ⟨rfl, hs.to⟩
theorem npath_any (a : Vec 32) (hs : Sat K w Hs) : Ret Try.prog 33 #[.pointer none, idV a.1] w fun r w' => r = .slice none 0 0 ∧ Sat K w' Hs := by
  have e1 := encV_len a
  refine Ret.enter (n := 32) (args := [.pointer none, idV a.1]) Try.func33 rfl rfl ?_
  refine C.keep [(0, _), (1, _)] ⟨rfl, rfl, trivial⟩ ?_
  refine C.seq ?_
  refine C.region ?_
  refine R.sboxA hs rfl rfl ?_
  intro b3 w3 hs
  refine R.ev rfl (E.assign rfl) ?_
  refine R.done ?_
  refine X.keep [(0, _), (3, _)] ⟨rfl, rfl, trivial⟩ ?_
  refine X.next ?_
  refine C.seq ?_
  refine C.seq ?_
  refine C.region ?_
  refine R.ev rfl (E.move rfl) ?_
  refine R.ev rfl (E.loadRowC rfl Try.underlying37 rfl Try.sz37 (by first | exact ⟨hs.ldA, by first | rfl | assumption | exact encV_len _ | exact Enc.len _ | exact len_ub (by assumption)⟩ | exact ⟨hs.ldP rfl, by first | rfl | assumption | exact encV_len _ | exact Enc.len _ | exact len_ub (by assumption)⟩ | exact ⟨hs.ldM rfl rfl, by first | rfl | assumption | exact encV_len _ | exact Enc.len _ | exact len_ub (by assumption)⟩ | exact ⟨hs.ldM (by assumption) (by first | rfl | assumption), by first | rfl | assumption | exact encV_len _ | exact Enc.len _ | exact len_ub (by assumption)⟩ | exact ⟨by assumption, by first | rfl | assumption | exact encV_len _ | exact Enc.len _ | exact len_ub (by assumption)⟩ | exact hs.ldp | exact At.partC (by assumption))) ?_
  refine R.call ⟨_, _, Try.func32, rfl, by kernel_rfl⟩ rfl rfl (nhas_any a hs) ?_
  rintro _ w1 ⟨rfl, hs⟩
  refine R.ev rfl ((E.not rfl).isB (c := true) rfl) ?_
  refine R.done ?_
  refine X.keep [(0, _), (3, _), (11, _)] ⟨rfl, rfl, rfl, trivial⟩ ?_
  refine X.next ?_
  refine C.ctrue rfl ?_
  refine C.seq ?_
  refine C.region ?_
  refine R.ev rfl (E.assign rfl) ?_
  refine R.done ?_
  refine X.keep [(4, _)] ⟨rfl, trivial⟩ ?_
  refine X.next ?_
  refine C.ret ?_
  refine X.thenRet ?_
  refine X.ret1 rfl rfl ?_
  exact ⟨rfl, hs.to⟩
theorem nsuccs_any (a : Vec 32) (hs : Sat K w Hs) : Ret Try.prog 35 #[.pointer none, idV a.1] w fun r w' => r = .slice none 0 0 ∧ Sat K w' Hs := by
  have e1 := encV_len a
  refine Ret.enter (n := 29) (args := [.pointer none, idV a.1]) Try.func35 rfl rfl ?_
  refine C.keep [(0, _), (1, _)] ⟨rfl, rfl, trivial⟩ ?_
  refine C.seq ?_
  refine C.region ?_
  refine R.sboxA hs rfl rfl ?_
  intro b3 w3 hs
  refine R.ev rfl (E.assign rfl) ?_
  refine R.done ?_
  refine X.keep [(0, _), (3, _)] ⟨rfl, rfl, trivial⟩ ?_
  refine X.next ?_
  refine C.seq ?_
  refine C.seq ?_
  refine C.region ?_
  refine R.ev rfl (E.move rfl) ?_
  refine R.ev rfl (E.loadRowC rfl Try.underlying37 rfl Try.sz37 (by first | exact ⟨hs.ldA, by first | rfl | assumption | exact encV_len _ | exact Enc.len _ | exact len_ub (by assumption)⟩ | exact ⟨hs.ldP rfl, by first | rfl | assumption | exact encV_len _ | exact Enc.len _ | exact len_ub (by assumption)⟩ | exact ⟨hs.ldM rfl rfl, by first | rfl | assumption | exact encV_len _ | exact Enc.len _ | exact len_ub (by assumption)⟩ | exact ⟨hs.ldM (by assumption) (by first | rfl | assumption), by first | rfl | assumption | exact encV_len _ | exact Enc.len _ | exact len_ub (by assumption)⟩ | exact ⟨by assumption, by first | rfl | assumption | exact encV_len _ | exact Enc.len _ | exact len_ub (by assumption)⟩ | exact hs.ldp | exact At.partC (by assumption))) ?_
  refine R.call ⟨_, _, Try.func32, rfl, by kernel_rfl⟩ rfl rfl (nhas_any a hs) ?_
  rintro _ w1 ⟨rfl, hs⟩
  refine R.ev rfl ((E.not rfl).isB (c := true) rfl) ?_
  refine R.done ?_
  refine X.keep [(0, _), (3, _), (11, _)] ⟨rfl, rfl, rfl, trivial⟩ ?_
  refine X.next ?_
  refine C.ctrue rfl ?_
  refine C.seq ?_
  refine C.region ?_
  refine R.ev rfl (E.assign rfl) ?_
  refine R.done ?_
  refine X.keep [(4, _)] ⟨rfl, trivial⟩ ?_
  refine X.next ?_
  refine C.ret ?_
  refine X.thenRet ?_
  refine X.ret1 rfl rfl ?_
  exact ⟨rfl, hs.to⟩
theorem nend_any (a : Vec 32) (hs : Sat K w Hs) : Ret Try.prog 34 #[.pointer none, idV a.1] w fun r w' => r = .tuple #[idV vz.1, .bool false] ∧ Sat K w' Hs := by
  have e1 := encV_len a
  refine Ret.enter (n := 20) (args := [.pointer none, idV a.1]) Try.func34 rfl rfl ?_
  refine C.keep [(0, _), (1, _)] ⟨rfl, rfl, trivial⟩ ?_
  refine C.seq ?_
  refine C.region ?_
  refine R.sboxA hs rfl rfl ?_
  intro b3 w3 hs
  refine R.sallocA hs Try.zr37 rfl ?_
  intro b4 w4 hs
  refine R.ev rfl (E.assign rfl) ?_
  refine R.done ?_
  refine X.keep [(0, _), (3, _), (4, _)] ⟨rfl, rfl, rfl, trivial⟩ ?_
  refine X.next ?_
  refine C.seq ?_
  refine C.region ?_
  refine R.ev rfl (E.move rfl) ?_
  refine R.ev rfl (E.loadRowC rfl Try.underlying37 rfl Try.sz37 (by first | exact ⟨hs.ldA, by first | rfl | assumption | exact encV_len _ | exact Enc.len _ | exact len_ub (by assumption)⟩ | exact ⟨hs.ldP rfl, by first | rfl | assumption | exact encV_len _ | exact Enc.len _ | exact len_ub (by assumption)⟩ | exact ⟨hs.ldM rfl rfl, by first | rfl | assumption | exact encV_len _ | exact Enc.len _ | exact len_ub (by assumption)⟩ | exact ⟨hs.ldM (by assumption) (by first | rfl | assumption), by first | rfl | assumption | exact encV_len _ | exact Enc.len _ | exact len_ub (by assumption)⟩ | exact ⟨by assumption, by first | rfl | assumption | exact encV_len _ | exact Enc.len _ | exact len_ub (by assumption)⟩ | exact hs.ldp | exact At.partC (by assumption))) ?_
  refine R.call ⟨_, _, Try.func33, rfl, by kernel_rfl⟩ rfl rfl (npath_any a hs) ?_
  rintro _ w9 ⟨rfl, hs⟩
  refine R.ev rfl (E.assign rfl) ?_
  refine R.done ?_
  refine X.keep [(4, _), (6, _)] ⟨rfl, rfl, trivial⟩ ?_
  refine X.next ?_
  refine C.seq ?_
  refine C.seq ?_
  refine C.region ?_
  refine R.ev rfl (E.move rfl) ?_
  refine R.ev rfl (E.lenSl rfl Try.underlying40) ?_
  refine R.ev rfl ((E.eql rfl rfl).isT rfl) ?_
  refine R.done ?_
  refine X.keep [(4, _), (6, _), (12, _)] ⟨rfl, rfl, rfl, trivial⟩ ?_
  refine X.next ?_
  refine C.ctrue rfl ?_
  refine C.seq ?_
  refine C.region ?_
  refine R.ev rfl ((E.buildA rfl Try.underlying37 Try.zr37 Try.sz5 rfl).as (u := .agg (encV vz).toArray) (by rfl)) ?_
  first | refine R.cstoreAll hs rfl rfl Try.sz37 (by first | rfl | assumption | exact encV_len _ | exact Enc.len _ | exact len_ub (by assumption) | simp [*]) (by first | rfl | assumption | exact encV_len _ | exact Enc.len _ | exact len_ub (by assumption) | simp [*]) (by first | assumption | exact OneL.all | exact Enc.one _ | exact ub_all _ | (repeat' (first | refine List.forall_mem_cons.2 ⟨?_, ?_⟩ | exact List.forall_mem_nil _ | rfl | exact OneC.one | exact KRow.oneC' (by assumption)))) ?_ | refine R.cstore hs rfl rfl Try.sz37 (by first | rfl | assumption | exact encV_len _ | exact Enc.len _ | exact len_ub (by assumption) | simp [*]) (by simp [*]) (by first | assumption | exact OneL.all | exact Enc.one _ | exact ub_all _ | (repeat' (first | refine List.forall_mem_cons.2 ⟨?_, ?_⟩ | exact List.forall_mem_nil _ | rfl | exact OneC.one | exact KRow.oneC' (by assumption)))) ?_
  intro w3_1 hs
  try simp only [List.set_cons_zero, List.set_cons_succ] at hs
  refine R.ev rfl (E.assign rfl) ?_
  refine R.done ?_
  refine X.keep [(4, _), (5, _)] ⟨rfl, rfl, trivial⟩ ?_
  refine X.next ?_
  refine C.ret ?_
  refine X.thenRet ?_
  refine X.resCT rfl rfl Try.underlying37 rfl Try.sz37 (by first | exact ⟨hs.ldA, by first | rfl | assumption | exact encV_len _ | exact Enc.len _ | exact len_ub (by assumption)⟩ | exact ⟨hs.ldP rfl, by first | rfl | assumption | exact encV_len _ | exact Enc.len _ | exact len_ub (by assumption)⟩ | exact ⟨by assumption, by first | rfl | assumption | exact encV_len _ | exact Enc.len _ | exact len_ub (by assumption)⟩) rfl ?_
  exact ⟨rfl, hs.to⟩
theorem nlen_any (hs : Sat K w Hs) : Ret Try.prog 36 #[.pointer none] w fun r w' => r = .int .i64 0 ∧ Sat K w' Hs := by
  refine Ret.enter (n := 10) (args := [.pointer none]) Try.func36 rfl rfl ?_
  refine C.keep [(0, _)] ⟨rfl, trivial⟩ ?_
  refine C.seq ?_
  refine C.region ?_
  refine R.ev rfl (E.assign rfl) ?_
  refine R.done ?_
  refine X.keep [(0, _)] ⟨rfl, trivial⟩ ?_
  refine X.next ?_
  refine C.seq ?_
  refine C.seq ?_
  refine C.region ?_
  refine R.ev rfl (E.move rfl) ?_
  refine R.ev rfl (E.eqlNilT rfl rfl Try.underlying54) ?_
  refine R.done ?_
  refine X.keep [(0, _), (4, _)] ⟨rfl, rfl, trivial⟩ ?_
  refine X.next ?_
  refine C.ctrue rfl ?_
  refine C.seq ?_
  refine C.region ?_
  refine R.ev rfl (E.assign rfl) ?_
  refine R.done ?_
  refine X.keep [(2, _)] ⟨rfl, trivial⟩ ?_
  refine X.next ?_
  refine C.ret ?_
  refine X.thenRet ?_
  refine X.ret1 rfl rfl ?_
  exact ⟨rfl, hs.to⟩
theorem nclone_any (hs : Sat K w Hs) : Ret Try.prog 30 #[.pointer none] w fun r w' => r = .pointer none ∧ Sat K w' Hs := by
  refine Ret.enter (n := 27) (args := [.pointer none]) Try.func30 rfl rfl ?_
  refine C.keep [(0, _)] ⟨rfl, trivial⟩ ?_
  refine C.seq ?_
  refine C.region ?_
  refine R.ev rfl (E.assign rfl) ?_
  refine R.done ?_
  refine X.keep [(0, _)] ⟨rfl, trivial⟩ ?_
  refine X.next ?_
  refine C.seq ?_
  refine C.seq ?_
  refine C.region ?_
  refine R.ev rfl (E.move rfl) ?_
  refine R.ev rfl (E.eqlNilT rfl rfl Try.underlying54) ?_
  refine R.done ?_
  refine X.keep [(0, _), (7, _)] ⟨rfl, rfl, trivial⟩ ?_
  refine X.next ?_
  refine C.ctrue rfl ?_
  refine C.seq ?_
  refine C.region ?_
  refine R.ev rfl (E.assign rfl) ?_
  refine R.done ?_
  refine X.keep [(2, _)] ⟨rfl, trivial⟩ ?_
  refine X.next ?_
  refine C.ret ?_
  refine X.thenRet ?_
  refine X.ret1 rfl rfl ?_
  exact ⟨rfl, hs.to⟩
theorem nequal_any (hs : Sat K w Hs) : Ret Try.prog 42 #[.pointer none, .pointer none] w fun r w' => r = .bool true ∧ Sat K w' Hs := by
  refine Ret.enter (n := 26) (args := [.pointer none, .pointer none]) Try.func42 rfl rfl ?_
  refine C.keep [(0, _), (1, _)] ⟨rfl, rfl, trivial⟩ ?_
  refine C.seq ?_
  refine C.region ?_
  refine R.ev rfl (E.assign rfl) ?_
  refine R.done ?_
  refine X.keep [(0, _), (1, _)] ⟨rfl, rfl, trivial⟩ ?_
  refine X.next ?_
  refine C.seq ?_
  refine C.seq ?_
  refine C.region ?_
  refine R.ev rfl (E.move rfl) ?_
  refine R.ev rfl (E.eqlNilT rfl rfl Try.underlying54) ?_
  refine R.ev rfl (E.move rfl) ?_
  refine R.gskip rfl rfl rfl ?_
  refine R.gskip rfl rfl rfl ?_
  refine R.ev rfl (E.pickT rfl rfl) ?_
  refine R.done ?_
  refine X.keep [(0, _), (1, _), (10, _)] ⟨rfl, rfl, rfl, trivial⟩ ?_
  refine X.next ?_
  refine C.ctrue rfl ?_
  refine C.seq ?_
  refine C.region ?_
  refine R.ev rfl (E.move rfl) ?_
  refine R.ev rfl (E.eqlNilT rfl rfl Try.underlying54) ?_
  refine R.ev rfl (E.move rfl) ?_
  refine R.gyes rfl rfl ?_
  refine R.ev rfl (E.move rfl) ?_
  refine R.gyes rfl rfl ?_
  refine R.ev rfl (E.eqlNilT rfl rfl Try.underlying54) ?_
  refine R.ev rfl (E.pickT rfl rfl) ?_
  refine R.ev rfl (E.assign rfl) ?_
  refine R.done ?_
  refine X.keep [(4, _)] ⟨rfl, trivial⟩ ?_
  refine X.next ?_
  refine C.ret ?_
  refine X.thenRet ?_
  refine X.ret1 rfl rfl ?_
  exact ⟨rfl, hs.to⟩
theorem equalNil_any {p : Nat} (hs : Sat K w Hs) : Ret Try.prog 42 #[ptr p, .pointer none] w fun r w' => r = .bool false ∧ Sat K w' Hs := by
  refine Ret.enter (n := 26) (args := [ptr p, .pointer none]) Try.func42 rfl rfl ?_
  refine C.keep [(0, _), (1, _)] ⟨rfl, rfl, trivial⟩ ?_
  refine C.seq ?_
  refine C.region ?_
  refine R.ev rfl (E.assign rfl) ?_
  refine R.done ?_
  refine X.keep [(0, _), (1, _)] ⟨rfl, rfl, trivial⟩ ?_
  refine X.next ?_
  refine C.seq ?_
  refine C.seq ?_
  refine C.region ?_
  refine R.ev rfl (E.move rfl) ?_
  refine R.ev rfl (E.eqlNilF rfl rfl Try.underlying54) ?_
  refine R.ev rfl (E.move rfl) ?_
  refine R.gyes rfl rfl ?_
  refine R.ev rfl (E.move rfl) ?_
  refine R.gyes rfl rfl ?_
  refine R.ev rfl (E.eqlNilT rfl rfl Try.underlying54) ?_
  refine R.ev rfl (E.pickF rfl rfl) ?_
  refine R.done ?_
  refine X.keep [(0, _), (1, _), (10, _)] ⟨rfl, rfl, rfl, trivial⟩ ?_
  refine X.next ?_
  refine C.ctrue rfl ?_
  refine C.seq ?_
  refine C.region ?_
  refine R.ev rfl (E.move rfl) ?_
  refine R.ev rfl (E.eqlNilF rfl rfl Try.underlying54) ?_
  refine R.ev rfl (E.move rfl) ?_
  refine R.gskip rfl rfl rfl ?_
  refine R.gskip rfl rfl rfl ?_
  refine R.ev rfl (E.pickF rfl rfl) ?_
  refine R.ev rfl (E.assign rfl) ?_
  refine R.done ?_
  refine X.keep [(4, _)] ⟨rfl, trivial⟩ ?_
  refine X.next ?_
  refine C.ret ?_
  refine X.thenRet ?_
  refine X.ret1 rfl rfl ?_
  exact ⟨rfl, hs.to⟩
end
def eqK (L1 L2 : List RR) (k : Nat) : Bool := decide (L1.length = L2.length) && (L1.take k).all (fun x => decide (x ∈ L2))
theorem eqK_step {L1 L2 : List RR} {k : Nat} {y : RR} (hy : L1[k]? = some y) (h : eqK L1 L2 k = true) : eqK L1 L2 (k + 1) = decide (y ∈ L2) := by
  unfold eqK at *
  rw [Bool.and_eq_true] at h
  rw [take_snoc hy, List.all_append, h.1, h.2]; simp
theorem eqK_no {L1 L2 : List RR} {k : Nat} (h : eqK L1 L2 k = false) : eqL L1 L2 = false := by
  unfold eqK at h; unfold eqL
  cases hd : decide (L1.length = L2.length) with
  | false => rfl
  | true =>
    rw [hd, Bool.true_and] at h
    rw [Bool.true_and]
    rw [List.all_eq_false] at *
    obtain ⟨x, hx, hn⟩ := h
    exact ⟨x, List.mem_of_mem_take hx, hn⟩
theorem eqK_end {L1 L2 : List RR} {k : Nat} (h : L1.length ≤ k) : eqK L1 L2 k = eqL L1 L2 := by
  unfold eqK eqL; rw [List.take_of_length_le h]
theorem eqK_non {L2 : List RR} {y : RR} (h : ¬ (0 ≤ idxP (rIs y.id) L2)) : decide (y ∈ L2) = false := decide_eq_false fun hm => by
  have := idxP_neg (p := rIs y.id) (L := L2) (idxP_lt (by omega)) y hm
  rw [show rIs y.id y = true from decide_eq_true rfl] at this; cases this
theorem clones_walk (w : World) (v0 : Value) (a0 : ArgV Try.prog w 58 v0) (v1 : Value) (a1 : ArgV Try.prog w 58 v1) (v2 : Value) (a2 : ArgV Try.prog w 23 v2) : Ret Try.prog 12 #[v0, v1, v2] w fun r w' => r = .bool true ∧ Mod [] w w' := by
  obtain ⟨ad, cap, ops, rfl, hc, hcm, hr⟩ := argv_o a0
  obtain ⟨ad2, cap2, ops2, rfl, hc2, hcm2, hr2⟩ := argv_o a1
  obtain ⟨a, rfl⟩ := argv_vec a2 Try.underlying23 Try.underlying5 (by kernel_rfl) (by kernel_rfl)
  unfold maxLen at hcm hcm2
  have e1 := encV_len a
  have hs := Sat.start w
  refine Ret.enter (n := 176) (args := [.slice ad ops.length cap, .slice ad2 ops2.length cap2, idV a.1]) Try.func12 rfl rfl ?_
  refine C.keep [(0, _), (1, _), (2, _)] ⟨rfl, rfl, rfl, trivial⟩ ?_
  refine C.seq ?_
  refine C.region ?_
  refine R.sboxA hs rfl rfl ?_
  intro b5 w5 hs
  refine R.ev rfl (E.assign rfl) ?_
  refine R.done ?_
  refine X.keep [(0, _), (1, _), (5, _)] ⟨rfl, rfl, rfl, trivial⟩ ?_
  refine X.next ?_
  refine C.seq ?_
  refine C.seq ?_
  refine C.region ?_
  refine R.call ⟨_, _, Try.func16, rfl, by kernel_rfl⟩ rfl rfl (known_any hs) ?_
  rintro _ w1 ⟨rfl, hs⟩
  refine R.ev rfl (E.notT rfl) ?_
  refine R.done ?_
  refine X.keep [(0, _), (1, _), (5, _), (21, _)] ⟨rfl, rfl, rfl, rfl, trivial⟩ ?_
  refine X.next ?_
  refine C.cfalse rfl ?_
  refine C.skip ?_
  refine X.next ?_
  refine C.seq ?_
  refine C.region ?_
  refine R.ev rfl (E.move rfl) ?_
  refine R.call ⟨_, _, Try.func28, rfl, by kernel_rfl⟩ rfl rfl (play_any hs (by omega)) ?_
  rintro _ w3 ⟨K3, p, M, L, v3, F3, rfl, hk3, hr3, hI, hG, hLl, hw3, hs⟩
  have hr2 : KRow encO 83 K3 (.slice ad2 ops2.length cap2) ops2 := KRow.mono (k := hk3) (h := hr2)
  have o3 : OneC v3 := ⟨KRow.oneC' hr3⟩
  obtain ⟨ad3, cap3, rfl, hsl3, hc3⟩ := hr3.ex
  refine R.ev rfl (E.move rfl) ?_
  refine R.ev rfl (E.extract rfl rfl) ?_
  refine R.ev rfl (E.extract rfl rfl) ?_
  refine R.ev rfl (E.extract rfl rfl) ?_
  refine R.ev rfl (E.assign rfl) ?_
  refine R.ev rfl (E.assign rfl) ?_
  refine R.ev rfl (E.assign rfl) ?_
  refine R.done ?_
  refine X.keep [(1, _), (5, _), (7, _), (8, _), (9, _)] ⟨rfl, rfl, rfl, rfl, rfl, trivial⟩ ?_
  refine X.next ?_
  refine C.seq ?_
  refine C.region ?_
  refine R.ev rfl (E.move rfl) ?_
  refine R.call ⟨_, _, Try.func28, rfl, by kernel_rfl⟩ rfl rfl (play_any hs (by omega)) ?_
  rintro _ w4 ⟨K4, q, M2, L2, v4, F4, rfl, hk4, hr4, hI2, hG2, hLl2, hw4, hs⟩
  have o4 : OneC v4 := ⟨KRow.oneC' hr4⟩
  obtain ⟨ad4, cap4, rfl, hsl4, hc4⟩ := hr4.ex
  have hr3 : KRow encR 82 K4 (.slice ad3 L.length cap3) L := KRow.mono (k := hk4) (h := hr3)
  have hG := hG.mono hk4
  refine R.ev rfl (E.move rfl) ?_
  refine R.ev rfl (E.extract rfl rfl) ?_
  refine R.ev rfl (E.extract rfl rfl) ?_
  refine R.ev rfl (E.extract rfl rfl) ?_
  refine R.ev rfl (E.assign rfl) ?_
  refine R.ev rfl (E.assign rfl) ?_
  refine R.ev rfl (E.assign rfl) ?_
  refine R.done ?_
  refine X.keep [(5, _), (7, _), (8, _), (9, _), (10, _), (11, _), (12, _)] ⟨rfl, rfl, rfl, rfl, rfl, rfl, rfl, trivial⟩ ?_
  refine X.next ?_
  refine C.seq ?_
  refine C.seq ?_
  refine C.region ?_
  refine R.ev rfl (E.move rfl) ?_
  refine R.ev rfl ((E.not rfl).isB (c := false) rfl) ?_
  refine R.ev rfl (E.move rfl) ?_
  refine R.gyes rfl rfl ?_
  refine R.ev rfl (E.move rfl) ?_
  refine R.gyes rfl rfl ?_
  refine R.ev rfl ((E.not rfl).isB (c := false) rfl) ?_
  refine R.ev rfl (E.pickF rfl rfl) ?_
  refine R.done ?_
  refine X.keep [(5, _), (7, _), (8, _), (10, _), (11, _), (39, _)] ⟨rfl, rfl, rfl, rfl, rfl, rfl, trivial⟩ ?_
  refine X.next ?_
  refine C.cfalse rfl ?_
  refine C.skip ?_
  refine X.next ?_
  refine C.seq ?_
  refine C.region ?_
  refine R.ev rfl (E.move rfl) ?_
  refine R.ev rfl (E.lenSl rfl Try.underlying22) ?_
  refine R.ev rfl (E.move rfl) ?_
  refine R.ev rfl (E.lenSl rfl Try.underlying22) ?_
  refine R.ev rfl ((E.eql rfl rfl).isB (c := eqK L L2 0) (by simp [eqK]; omega)) ?_
  refine R.ev rfl (E.assign rfl) ?_
  refine R.done ?_
  refine X.keep [(5, _), (7, _), (8, _), (10, _), (11, _), (13, _)] ⟨rfl, rfl, rfl, rfl, rfl, rfl, trivial⟩ ?_
  refine X.next ?_
  refine C.seq ?_
  refine C.seq ?_
  refine C.region ?_
  refine R.ev rfl (E.assign rfl) ?_
  refine R.done ?_
  refine X.keep [(5, _), (7, _), (8, _), (10, _), (11, _), (13, _), (14, _)] ⟨rfl, rfl, rfl, rfl, rfl, rfl, rfl, trivial⟩ ?_
  refine X.next ?_
  refine C.block ?_
  refine C.loop (T := Nat × Bool) [(5, _), (7, _), (8, _), (10, _), (11, _)] (fun (i, b) => [(13, .bool b), (14, .int .i64 (i : Nat))]) (fun (i, b) w' => i ≤ L.length ∧ b = eqK L L2 i ∧ Sat K4 w' (row b5 23 (a.1.map ub) :: F3 :: F4 :: [])) (fun (i, _) => L.length - i) ((0, eqK L L2 0)) ⟨rfl, rfl, rfl, rfl, rfl, rfl, rfl, trivial⟩ ⟨Nat.zero_le _, rfl, hs.to⟩ ?_
  rintro ⟨i, b⟩ w5 ⟨hi, hb, hs⟩
  refine C.keep [(5, _), (7, _), (8, _), (10, _), (11, _), (13, _), (14, _)] ⟨rfl, rfl, rfl, rfl, rfl, rfl, rfl, trivial⟩ ?_
  refine C.seq ?_
  refine C.seq ?_
  refine C.region ?_
  refine R.ev rfl (E.move rfl) ?_
  refine R.ev rfl (E.move rfl) ?_
  refine R.ev rfl (E.lenSl rfl Try.underlying22) ?_
  refine R.ev rfl (E.lss rfl rfl) ?_
  refine R.ev rfl (E.move rfl) ?_
  refine R.split 49 rfl (fun h49 => ?_) (fun h49 => ?_)
  · refine R.gyes rfl rfl ?_
    refine R.ev rfl (E.move rfl) ?_
    refine R.ev rfl (E.pickT rfl rfl) ?_
    refine R.done ?_
    refine X.keep [(5, _), (7, _), (8, _), (10, _), (11, _), (13, _), (14, _), (51, _)] ⟨rfl, rfl, rfl, rfl, rfl, rfl, rfl, rfl, trivial⟩ ?_
    refine X.next ?_
    refine C.cbool rfl (fun h51 => ?_) (fun h51 => ?_)
    · refine C.skip ?_
      refine X.next ?_
      refine C.seq ?_
      refine C.block ?_
      refine C.seq ?_
      refine C.region ?_
      have hil : i < L.length := by have := of_decide_eq_true h49; omega
      obtain ⟨y, bk, of, hy, my, ly, rfl, Ay⟩ := (hs.to (Hs := [])).el (i := i) (ad := ad3) (n := L.length) (c := cap3) hil
      have hst := eqK_step hy (hb.symm.trans h51)
      refine R.ev rfl (E.move rfl) ?_
      refine R.ev rfl (E.move rfl) ?_
      refine R.ev rfl (E.move rfl) ?_
      refine R.ev rfl (E.indexAddr (i := i) rfl rfl Try.underlying22 Try.sz26 rfl (by omega)) ?_
      first | refine R.ev rfl (E.fieldAddr0 0 rfl Try.underlying26 rfl Try.sz23 rfl) ?_ | refine R.ev rfl (E.fieldAddrN 0 rfl Try.underlying26 rfl Try.sz23 rfl) ?_
      refine R.ev rfl (E.loadRow (cs := y.id.1.map ub) rfl Try.underlying23 rfl Try.sz23 (Ay _ hs.to).app.1 (encV_len y.id)) ?_
      refine R.call ⟨_, _, Try.func37, rfl, by kernel_rfl⟩ rfl rfl (rfind_any (L := L2) y.id hs (by omega)) ?_
      rintro _ w11 ⟨rfl, hs⟩
      refine R.ev rfl (E.assign rfl) ?_
      refine R.done ?_
      refine X.keep [(5, _), (7, _), (8, _), (10, _), (11, _), (14, _), (15, _)] ⟨rfl, rfl, rfl, rfl, rfl, rfl, rfl, trivial⟩ ?_
      refine X.next ?_
      refine C.drawn (SatS hs) ([6, 10], [0, 1, 2, 3, 4, 5, 7, 8, 9, 11, 12, 13]) (by kernel_rfl) ?_
      have hs := hs.drew
      refine D.evP 0 rfl (by kernel_rfl) rfl (fun _ => hs.to) (fun _ => E.move rfl) ?_
      refine D.evP 1 rfl (by kernel_rfl) rfl (fun _ => hs.to) (fun _ => E.geq rfl rfl) ?_
      refine D.evP 2 rfl (by kernel_rfl) rfl (fun _ => hs.to) (fun _ => E.move rfl) ?_
      refine D.split 63 rfl (fun h63 => ?_) (fun h63 => ?_)
      · obtain ⟨k, z, hix, hz0, hza, _⟩ := idxP_pos (p := rIs y.id) (L := L2) (by have := of_decide_eq_true h63; omega)
        have hza : z.id = y.id := of_decide_eq_true hza
        have hkl := (List.getElem?_eq_some_iff.1 hz0).1
        obtain ⟨z', bk2, of2, hz, mz, lz, hadz, Az⟩ := (hs.to (Hs := [])).el (i := k) (ad := ad4) (n := L2.length) (c := cap4) hkl
        obtain rfl : z = z' := by rw [hz0] at hz; simpa using hz
        have hzy : decide (z = y) = decide (y ∈ L2) := by
          rw [Bool.eq_iff_iff, decide_eq_true_eq, decide_eq_true_eq]
          exact ⟨fun e => e ▸ mz, fun h => id_inj hI2.nd mz h hza⟩
        refine D.evPG 3 rfl (by kernel_rfl) rfl rfl rfl (fun _ => hs.to) (fun _ => E.move rfl) ?_
        refine D.evPG 4 rfl (by kernel_rfl) rfl rfl rfl (fun _ => hs.to) (fun _ => (E.move rfl).as (u := .int .i64 (k : Nat)) (by rw [hix])) ?_
        refine D.evPG 5 rfl (by kernel_rfl) rfl rfl rfl (fun _ => hs.to) (fun _ => E.indexAddr (i := k) (congrArg (fun a => some (Value.slice a L2.length cap4)) hadz) rfl Try.underlying22 Try.sz26 rfl (by omega)) ?_
        refine D.evPG 7 rfl (by kernel_rfl) rfl rfl rfl (fun _ => hs.to) (fun _ => E.move rfl) ?_
        refine D.evPG 8 rfl (by kernel_rfl) rfl rfl rfl (fun _ => hs.to) (fun _ => E.move rfl) ?_
        refine D.evPG 9 rfl (by kernel_rfl) rfl rfl rfl (fun _ => hs.to) (fun _ => E.indexAddr (i := i) rfl rfl Try.underlying22 Try.sz26 rfl (by omega)) ?_
        refine D.evG 6 rfl (by kernel_rfl) rfl rfl rfl hs.to (fun _ hS => E.loadRow rfl Try.underlying26 rfl Try.sz26 (Az _ hS.to) (Enc.len _)) ?_
        refine D.evG 10 rfl (by kernel_rfl) rfl rfl rfl hs.to (fun _ hS => E.loadRow rfl Try.underlying26 rfl Try.sz26 (Ay _ hS.to) (Enc.len _)) ?_
        refine D.evPG 11 rfl (by kernel_rfl) rfl rfl rfl (fun _ => hs.to) (fun _ => (E.eqlAgg 10 rfl rfl Try.lv26 rfl Try.underlying26 rfl Try.gd26 (encR_fits _) (encR_fits _)).isB (c := decide (z = y)) (by rw [encR_eq])) ?_
        refine D.evP 12 rfl (by kernel_rfl) rfl (fun _ => hs.to) (fun _ => E.pickT rfl rfl) ?_
        refine D.evP 13 rfl (by kernel_rfl) rfl (fun _ => hs.to) (fun _ => E.assign rfl) ?_
        refine D.done rfl (by kernel_rfl) ?_
        refine X.keep [(5, _), (7, _), (8, _), (10, _), (11, _), (13, _), (14, _)] ⟨rfl, rfl, rfl, rfl, rfl, rfl, rfl, trivial⟩ ?_
        refine X.blockNormal ?_
        refine X.next ?_
        refine C.region ?_
        refine R.ev rfl (E.move rfl) ?_
        refine R.ev rfl (E.add rfl rfl (by omega) (by omega)) ?_
        refine R.ev rfl (E.assign rfl) ?_
        refine R.done ?_
        refine X.keep [(5, _), (7, _), (8, _), (10, _), (11, _), (13, _), (14, _)] ⟨rfl, rfl, rfl, rfl, rfl, rfl, rfl, trivial⟩ ?_
        first
          | exact X.again (i + 1, decide (z = y)) ⟨rfl, rfl, rfl, rfl, rfl, rfl, rfl, trivial⟩ ⟨by omega, by rw [hst, hzy], hs.to⟩ (by show _ - _ < _ - _; omega)
          | exact X.again (i + 1, false) ⟨rfl, rfl, rfl, rfl, rfl, rfl, rfl, trivial⟩ ⟨by omega, by rw [hst, eqK_non (of_decide_eq_false h63)], hs.to⟩ (by show _ - _ < _ - _; omega)
      · refine D.skipP 3 rfl (by kernel_rfl) rfl rfl rfl (fun _ => hs.to) ?_
        refine D.skipP 4 rfl (by kernel_rfl) rfl rfl rfl (fun _ => hs.to) ?_
        refine D.skipP 5 rfl (by kernel_rfl) rfl rfl rfl (fun _ => hs.to) ?_
        refine D.skipP 7 rfl (by kernel_rfl) rfl rfl rfl (fun _ => hs.to) ?_
        refine D.skipP 8 rfl (by kernel_rfl) rfl rfl rfl (fun _ => hs.to) ?_
        refine D.skipP 9 rfl (by kernel_rfl) rfl rfl rfl (fun _ => hs.to) ?_
        refine D.skip 6 rfl (by kernel_rfl) rfl rfl rfl hs.to ?_
        refine D.skip 10 rfl (by kernel_rfl) rfl rfl rfl hs.to ?_
        refine D.skipP 11 rfl (by kernel_rfl) rfl rfl rfl (fun _ => hs.to) ?_
        refine D.evP 12 rfl (by kernel_rfl) rfl (fun _ => hs.to) (fun _ => E.pickF rfl rfl) ?_
        refine D.evP 13 rfl (by kernel_rfl) rfl (fun _ => hs.to) (fun _ => E.assign rfl) ?_
        refine D.done rfl (by kernel_rfl) ?_
        refine X.keep [(5, _), (7, _), (8, _), (10, _), (11, _), (13, _), (14, _)] ⟨rfl, rfl, rfl, rfl, rfl, rfl, rfl, trivial⟩ ?_
        refine X.blockNormal ?_
        refine X.next ?_
        refine C.region ?_
        refine R.ev rfl (E.move rfl) ?_
        refine R.ev rfl (E.add rfl rfl (by omega) (by omega)) ?_
        refine R.ev rfl (E.assign rfl) ?_
        refine R.done ?_
        refine X.keep [(5, _), (7, _), (8, _), (10, _), (11, _), (13, _), (14, _)] ⟨rfl, rfl, rfl, rfl, rfl, rfl, rfl, trivial⟩ ?_
        first
          | exact X.again (i + 1, decide (z = y)) ⟨rfl, rfl, rfl, rfl, rfl, rfl, rfl, trivial⟩ ⟨by omega, by rw [hst, hzy], hs.to⟩ (by show _ - _ < _ - _; omega)
          | exact X.again (i + 1, false) ⟨rfl, rfl, rfl, rfl, rfl, rfl, rfl, trivial⟩ ⟨by omega, by rw [hst, eqK_non (of_decide_eq_false h63)], hs.to⟩ (by show _ - _ < _ - _; omega)
    · refine C.exit ?_
      refine X.thenExit ?_
      refine X.loopExit ?_
      refine X.blockExit ?_
      refine X.next ?_
      refine C.seq ?_
      refine C.seq ?_
      refine C.region ?_
      have hbe : b = eqL L L2 := by
        first
          | (rw [h51] at hb; rw [h51, eqK_no hb.symm])
          | (rw [hb, eqK_end (by have := of_decide_eq_false h49; omega)])
      subst hbe
      have n1 := nd_of hI.nd
      have n2 := nd_of hI2.nd
      refine R.ev rfl (E.move rfl) ?_
      refine R.ev rfl (E.move rfl) ?_
      refine R.call ⟨_, _, Try.func42, rfl, by kernel_rfl⟩ rfl rfl (equal_any hI hI2 hG hG2 hs) ?_
      rintro _ w13 ⟨rfl, hs⟩
      refine R.ev rfl (E.move rfl) ?_
      refine R.ev rfl ((E.neqB rfl rfl Try.underlying4).isB (c := false) (by simp)) ?_
      refine R.ev rfl (E.move rfl) ?_
      refine R.gyes rfl rfl ?_
      refine R.ev rfl (E.move rfl) ?_
      refine R.gyes rfl rfl ?_
      refine R.ev rfl (E.move rfl) ?_
      refine R.gyes rfl rfl ?_
      refine R.call ⟨_, _, Try.func42, rfl, by kernel_rfl⟩ rfl rfl (equal_any hI2 hI hG2 hG hs) ?_
      rintro _ w138 ⟨rfl, hs⟩
      rw [eqL_comm n2 n1]
      refine R.gyes rfl rfl ?_
      refine R.ev rfl (E.move rfl) ?_
      refine R.gyes rfl rfl ?_
      refine R.ev rfl ((E.neqB rfl rfl Try.underlying4).isB (c := false) (by simp)) ?_
      refine R.ev rfl (E.pickF rfl rfl) ?_
      refine R.done ?_
      refine X.keep [(5, _), (7, _), (85, _)] ⟨rfl, rfl, rfl, trivial⟩ ?_
      refine X.next ?_
      refine C.cfalse rfl ?_
      refine C.skip ?_
      refine X.next ?_
      refine C.seq ?_
      refine C.region ?_
      refine R.ev rfl (E.move rfl) ?_
      refine R.call ⟨_, _, Try.func30, rfl, by kernel_rfl⟩ rfl rfl (clone_any (p := p) hI hG (by omega) hs) ?_
      rintro _ w15 ⟨K5, c, M5, L5, F5, rfl, hk5, hp5, hI5, hG5, hw5, hs⟩
      have hG := hG.mono hk5
      refine R.ev rfl (E.assign rfl) ?_
      refine R.done ?_
      refine X.keep [(5, _), (7, _), (16, _)] ⟨rfl, rfl, rfl, trivial⟩ ?_
      refine X.next ?_
      refine C.seq ?_
      refine C.seq ?_
      refine C.region ?_
      refine R.ev rfl (E.move rfl) ?_
      refine R.ev rfl (E.eqlNilF rfl rfl Try.underlying54) ?_
      refine R.ev rfl (E.move rfl) ?_
      refine R.gyes rfl rfl ?_
      refine R.ev rfl (E.move rfl) ?_
      refine R.gyes rfl rfl ?_
      refine R.ev rfl (E.move rfl) ?_
      refine R.gyes rfl rfl ?_
      refine R.call ⟨_, _, Try.func42, rfl, by kernel_rfl⟩ rfl rfl (equal_any (p := c) (q := p) hI5 hI hG5 hG hs) ?_
      rintro _ w165 ⟨rfl, hs⟩
      rw [eqL_perm hp5]
      refine R.gyes rfl rfl ?_
      refine R.ev rfl ((E.not rfl).isB (c := false) rfl) ?_
      refine R.ev rfl (E.pickF rfl rfl) ?_
      refine R.done ?_
      refine X.keep [(5, _), (7, _), (16, _), (95, _)] ⟨rfl, rfl, rfl, rfl, trivial⟩ ?_
      refine X.next ?_
      refine C.cfalse rfl ?_
      refine C.skip ?_
      refine X.next ?_
      refine C.seq ?_
      refine C.seq ?_
      refine C.region ?_
      refine R.ev rfl (E.move rfl) ?_
      refine R.ev rfl (E.loadRowC rfl Try.underlying23 rfl Try.sz23 (by first | exact ⟨hs.ldA, by first | rfl | assumption | exact encV_len _ | exact Enc.len _ | exact len_ub (by assumption)⟩ | exact ⟨hs.ldP rfl, by first | rfl | assumption | exact encV_len _ | exact Enc.len _ | exact len_ub (by assumption)⟩ | exact ⟨hs.ldM rfl rfl, by first | rfl | assumption | exact encV_len _ | exact Enc.len _ | exact len_ub (by assumption)⟩ | exact ⟨hs.ldM (by assumption) (by first | rfl | assumption), by first | rfl | assumption | exact encV_len _ | exact Enc.len _ | exact len_ub (by assumption)⟩ | exact ⟨by assumption, by first | rfl | assumption | exact encV_len _ | exact Enc.len _ | exact len_ub (by assumption)⟩ | exact hs.ldp | exact At.partC (by assumption))) ?_
      refine R.call ⟨_, _, Try.func31, rfl, by kernel_rfl⟩ rfl rfl (drop_any (p := c) a hI5 hG5 hs) ?_
      rintro _ w18 ⟨rfl, M6, F6, hI6, hG6, hw6, hs⟩
      refine R.ev rfl (E.eql rfl rfl) ?_
      refine R.ev rfl (E.move rfl) ?_
      refine R.split 100 rfl (fun h100 => ?_) (fun h100 => ?_)
      · refine R.gyes rfl rfl ?_
        have hha : hasId a L5 = true := by
          have := of_decide_eq_true h100
          unfold rDropE at this
          split at this
          · assumption
          · exact absurd this (by decide)
        have hhL : hasId a L = true := hasId_iff.2 ((hp5.map RR.id).mem_iff.1 (hasId_iff.1 hha))
        have hdl := delL_len hha
        have hpl := hp5.length_eq
        refine R.ev rfl (E.move rfl) ?_
        refine R.gyes rfl rfl ?_
        refine R.ev rfl (E.move rfl) ?_
        refine R.gyes rfl rfl ?_
        refine R.call ⟨_, _, Try.func42, rfl, by kernel_rfl⟩ rfl rfl (equal_any (p := c) (q := p) hI6 hI hG6 hG hs) ?_
        rintro _ w187 ⟨rfl, hs⟩
        rw [show eqL (delL a L5) L = false by unfold eqL; rw [decide_eq_false (by omega), Bool.false_and]]
        refine R.gyes rfl rfl ?_
        refine R.ev rfl (E.move rfl) ?_
        refine R.gyes rfl rfl ?_
        refine R.ev rfl (E.move rfl) ?_
        refine R.gyes rfl rfl ?_
        refine R.ev rfl (E.loadRowC rfl Try.underlying23 rfl Try.sz23 (by first | exact ⟨hs.ldA, by first | rfl | assumption | exact encV_len _ | exact Enc.len _ | exact len_ub (by assumption)⟩ | exact ⟨hs.ldP rfl, by first | rfl | assumption | exact encV_len _ | exact Enc.len _ | exact len_ub (by assumption)⟩ | exact ⟨hs.ldM rfl rfl, by first | rfl | assumption | exact encV_len _ | exact Enc.len _ | exact len_ub (by assumption)⟩ | exact ⟨hs.ldM (by assumption) (by first | rfl | assumption), by first | rfl | assumption | exact encV_len _ | exact Enc.len _ | exact len_ub (by assumption)⟩ | exact ⟨by assumption, by first | rfl | assumption | exact encV_len _ | exact Enc.len _ | exact len_ub (by assumption)⟩ | exact hs.ldp | exact At.partC (by assumption))) ?_
        refine R.gyes rfl rfl ?_
        refine R.call ⟨_, _, Try.func32, rfl, by kernel_rfl⟩ rfl rfl (has_any (p := p) a hs) ?_
        rintro _ w1811 ⟨rfl, hs⟩
        rw [hI.has, hhL]
        refine R.gyes rfl rfl ?_
        refine R.ev rfl ((E.not rfl).isB (c := false) rfl) ?_
        refine R.gyes rfl rfl ?_
        refine R.ev rfl (E.pickF rfl rfl) ?_
        refine R.ev rfl (E.pickT rfl rfl) ?_
        refine R.done ?_
        refine X.keep [(5, _), (7, _), (110, _)] ⟨rfl, rfl, rfl, trivial⟩ ?_
        refine X.next ?_
        refine C.cfalse rfl ?_
        refine C.skip ?_
        refine X.next ?_
        refine C.seq ?_
        refine C.region ?_
        refine R.ev rfl (E.assign rfl) ?_
        refine R.done ?_
        refine X.keep [(5, _), (7, _), (17, _)] ⟨rfl, rfl, rfl, trivial⟩ ?_
        refine X.next ?_
        refine C.seq ?_
        refine C.region ?_
        refine R.ev rfl (E.move rfl) ?_
        refine R.ev rfl (E.loadRowC rfl Try.underlying23 rfl Try.sz23 (by first | exact ⟨hs.ldA, by first | rfl | assumption | exact encV_len _ | exact Enc.len _ | exact len_ub (by assumption)⟩ | exact ⟨hs.ldP rfl, by first | rfl | assumption | exact encV_len _ | exact Enc.len _ | exact len_ub (by assumption)⟩ | exact ⟨hs.ldM rfl rfl, by first | rfl | assumption | exact encV_len _ | exact Enc.len _ | exact len_ub (by assumption)⟩ | exact ⟨hs.ldM (by assumption) (by first | rfl | assumption), by first | rfl | assumption | exact encV_len _ | exact Enc.len _ | exact len_ub (by assumption)⟩ | exact ⟨by assumption, by first | rfl | assumption | exact encV_len _ | exact Enc.len _ | exact len_ub (by assumption)⟩ | exact hs.ldp | exact At.partC (by assumption))) ?_
        refine R.call ⟨_, _, Try.func34, rfl, by kernel_rfl⟩ rfl rfl (nend_any a hs) ?_
        rintro _ w21 ⟨rfl, hs⟩
        refine R.ev rfl (E.move rfl) ?_
        refine R.ev rfl (E.extract rfl rfl) ?_
        refine R.ev rfl (E.extract rfl rfl) ?_
        refine R.sallocA hs Try.zr37 rfl ?_
        intro b18 w18 hs
        first | refine R.cstoreAll hs rfl rfl Try.sz37 (by first | rfl | assumption | exact encV_len _ | exact Enc.len _ | exact len_ub (by assumption) | simp [*]) (by first | rfl | assumption | exact encV_len _ | exact Enc.len _ | exact len_ub (by assumption) | simp [*]) (by first | assumption | exact OneL.all | exact Enc.one _ | exact ub_all _ | (repeat' (first | refine List.forall_mem_cons.2 ⟨?_, ?_⟩ | exact List.forall_mem_nil _ | rfl | exact OneC.one | exact KRow.oneC' (by assumption)))) ?_ | refine R.cstore hs rfl rfl Try.sz37 (by first | rfl | assumption | exact encV_len _ | exact Enc.len _ | exact len_ub (by assumption) | simp [*]) (by simp [*]) (by first | assumption | exact OneL.all | exact Enc.one _ | exact ub_all _ | (repeat' (first | refine List.forall_mem_cons.2 ⟨?_, ?_⟩ | exact List.forall_mem_nil _ | rfl | exact OneC.one | exact KRow.oneC' (by assumption)))) ?_
        intro w21_7 hs
        try simp only [List.set_cons_zero, List.set_cons_succ] at hs
        refine R.ev rfl (E.assign rfl) ?_
        refine R.done ?_
        refine X.keep [(5, _), (7, _), (17, _), (19, _)] ⟨rfl, rfl, rfl, rfl, trivial⟩ ?_
        refine X.next ?_
        refine C.seq ?_
        refine C.region ?_
        refine R.ev rfl (E.move rfl) ?_
        refine R.ev rfl (E.buildG (r := encA az) rfl Try.underlying42 Try.zr42 Try.ql42 (by kernel_rfl) (by kernel_rfl) trivial (by first | rfl | simp [setF, fieldsOf, Value.cells])) ?_
        refine R.call ⟨_, _, Try.func29, rfl, by kernel_rfl⟩ rfl rfl (nadd_any az hs) ?_
        rintro _ w222 ⟨rfl, hs⟩
        refine R.ev rfl ((E.eql rfl rfl).isT rfl) ?_
        refine R.ev rfl (E.move rfl) ?_
        refine R.gyes rfl rfl ?_
        refine R.ev rfl (E.move rfl) ?_
        refine R.gyes rfl rfl ?_
        refine R.ev rfl (E.loadRowC rfl Try.underlying23 rfl Try.sz23 (by first | exact ⟨hs.ldA, by first | rfl | assumption | exact encV_len _ | exact Enc.len _ | exact len_ub (by assumption)⟩ | exact ⟨hs.ldP rfl, by first | rfl | assumption | exact encV_len _ | exact Enc.len _ | exact len_ub (by assumption)⟩ | exact ⟨hs.ldM rfl rfl, by first | rfl | assumption | exact encV_len _ | exact Enc.len _ | exact len_ub (by assumption)⟩ | exact ⟨hs.ldM (by assumption) (by first | rfl | assumption), by first | rfl | assumption | exact encV_len _ | exact Enc.len _ | exact len_ub (by assumption)⟩ | exact ⟨by assumption, by first | rfl | assumption | exact encV_len _ | exact Enc.len _ | exact len_ub (by assumption)⟩ | exact hs.ldp | exact At.partC (by assumption))) ?_
        refine R.gyes rfl rfl ?_
        refine R.call ⟨_, _, Try.func31, rfl, by kernel_rfl⟩ rfl rfl (ndrop_any a hs) ?_
        rintro _ w227 ⟨rfl, hs⟩
        refine R.gyes rfl rfl ?_
        refine R.ev rfl ((E.eql rfl rfl).isT rfl) ?_
        refine R.ev rfl (E.pickT rfl rfl) ?_
        refine R.ev rfl (E.move rfl) ?_
        refine R.gyes rfl rfl ?_
        refine R.ev rfl (E.move rfl) ?_
        refine R.gyes rfl rfl ?_
        refine R.ev rfl (E.loadRowC rfl Try.underlying23 rfl Try.sz23 (by first | exact ⟨hs.ldA, by first | rfl | assumption | exact encV_len _ | exact Enc.len _ | exact len_ub (by assumption)⟩ | exact ⟨hs.ldP rfl, by first | rfl | assumption | exact encV_len _ | exact Enc.len _ | exact len_ub (by assumption)⟩ | exact ⟨hs.ldM rfl rfl, by first | rfl | assumption | exact encV_len _ | exact Enc.len _ | exact len_ub (by assumption)⟩ | exact ⟨hs.ldM (by assumption) (by first | rfl | assumption), by first | rfl | assumption | exact encV_len _ | exact Enc.len _ | exact len_ub (by assumption)⟩ | exact ⟨by assumption, by first | rfl | assumption | exact encV_len _ | exact Enc.len _ | exact len_ub (by assumption)⟩ | exact hs.ldp | exact At.partC (by assumption))) ?_
        refine R.gyes rfl rfl ?_
        refine R.call ⟨_, _, Try.func32, rfl, by kernel_rfl⟩ rfl rfl (nhas_any a hs) ?_
        rintro _ w2213 ⟨rfl, hs⟩
        refine R.gyes rfl rfl ?_
        refine R.ev rfl ((E.not rfl).isB (c := true) rfl) ?_
        refine R.ev rfl (E.pickT rfl rfl) ?_
        refine R.ev rfl (E.move rfl) ?_
        refine R.gyes rfl rfl ?_
        refine R.ev rfl (E.move rfl) ?_
        refine R.gyes rfl rfl ?_
        refine R.ev rfl (E.loadRowC rfl Try.underlying23 rfl Try.sz23 (by first | exact ⟨hs.ldA, by first | rfl | assumption | exact encV_len _ | exact Enc.len _ | exact len_ub (by assumption)⟩ | exact ⟨hs.ldP rfl, by first | rfl | assumption | exact encV_len _ | exact Enc.len _ | exact len_ub (by assumption)⟩ | exact ⟨hs.ldM rfl rfl, by first | rfl | assumption | exact encV_len _ | exact Enc.len _ | exact len_ub (by assumption)⟩ | exact ⟨hs.ldM (by assumption) (by first | rfl | assumption), by first | rfl | assumption | exact encV_len _ | exact Enc.len _ | exact len_ub (by assumption)⟩ | exact ⟨by assumption, by first | rfl | assumption | exact encV_len _ | exact Enc.len _ | exact len_ub (by assumption)⟩ | exact hs.ldp | exact At.partC (by assumption))) ?_
        refine R.gyes rfl rfl ?_
        refine R.call ⟨_, _, Try.func27, rfl, by kernel_rfl⟩ rfl rfl (nisWd_any a hs) ?_
        rintro _ w2219 ⟨rfl, hs⟩
        refine R.gyes rfl rfl ?_
        refine R.ev rfl ((E.not rfl).isB (c := true) rfl) ?_
        refine R.ev rfl (E.pickT rfl rfl) ?_
        refine R.ev rfl (E.move rfl) ?_
        refine R.gyes rfl rfl ?_
        refine R.ev rfl (E.move rfl) ?_
        refine R.gyes rfl rfl ?_
        refine R.ev rfl ((E.not rfl).isB (c := true) rfl) ?_
        refine R.ev rfl (E.pickT rfl rfl) ?_
        refine R.ev rfl (E.move rfl) ?_
        refine R.gyes rfl rfl ?_
        refine R.ev rfl (E.move rfl) ?_
        refine R.gyes rfl rfl ?_
        refine R.ev rfl (E.loadRowC rfl Try.underlying23 rfl Try.sz23 (by first | exact ⟨hs.ldA, by first | rfl | assumption | exact encV_len _ | exact Enc.len _ | exact len_ub (by assumption)⟩ | exact ⟨hs.ldP rfl, by first | rfl | assumption | exact encV_len _ | exact Enc.len _ | exact len_ub (by assumption)⟩ | exact ⟨hs.ldM rfl rfl, by first | rfl | assumption | exact encV_len _ | exact Enc.len _ | exact len_ub (by assumption)⟩ | exact ⟨hs.ldM (by assumption) (by first | rfl | assumption), by first | rfl | assumption | exact encV_len _ | exact Enc.len _ | exact len_ub (by assumption)⟩ | exact ⟨by assumption, by first | rfl | assumption | exact encV_len _ | exact Enc.len _ | exact len_ub (by assumption)⟩ | exact hs.ldp | exact At.partC (by assumption))) ?_
        refine R.gyes rfl rfl ?_
        refine R.call ⟨_, _, Try.func33, rfl, by kernel_rfl⟩ rfl rfl (npath_any a hs) ?_
        rintro _ w2229 ⟨rfl, hs⟩
        refine R.gyes rfl rfl ?_
        refine R.ev rfl (E.lenSl rfl Try.underlying40) ?_
        refine R.gyes rfl rfl ?_
        refine R.ev rfl ((E.eql rfl rfl).isT rfl) ?_
        refine R.ev rfl (E.pickT rfl rfl) ?_
        refine R.ev rfl (E.move rfl) ?_
        refine R.gyes rfl rfl ?_
        refine R.ev rfl (E.move rfl) ?_
        refine R.gyes rfl rfl ?_
        refine R.ev rfl (E.loadRowC rfl Try.underlying23 rfl Try.sz23 (by first | exact ⟨hs.ldA, by first | rfl | assumption | exact encV_len _ | exact Enc.len _ | exact len_ub (by assumption)⟩ | exact ⟨hs.ldP rfl, by first | rfl | assumption | exact encV_len _ | exact Enc.len _ | exact len_ub (by assumption)⟩ | exact ⟨hs.ldM rfl rfl, by first | rfl | assumption | exact encV_len _ | exact Enc.len _ | exact len_ub (by assumption)⟩ | exact ⟨hs.ldM (by assumption) (by first | rfl | assumption), by first | rfl | assumption | exact encV_len _ | exact Enc.len _ | exact len_ub (by assumption)⟩ | exact ⟨by assumption, by first | rfl | assumption | exact encV_len _ | exact Enc.len _ | exact len_ub (by assumption)⟩ | exact hs.ldp | exact At.partC (by assumption))) ?_
        refine R.gyes rfl rfl ?_
        refine R.call ⟨_, _, Try.func35, rfl, by kernel_rfl⟩ rfl rfl (nsuccs_any a hs) ?_
        rintro _ w2236 ⟨rfl, hs⟩
        refine R.gyes rfl rfl ?_
        refine R.ev rfl (E.lenSl rfl Try.underlying40) ?_
        refine R.gyes rfl rfl ?_
        refine R.ev rfl ((E.eql rfl rfl).isT rfl) ?_
        refine R.ev rfl (E.pickT rfl rfl) ?_
        refine R.ev rfl (E.move rfl) ?_
        refine R.gyes rfl rfl ?_
        refine R.ev rfl (E.move rfl) ?_
        refine R.gyes rfl rfl ?_
        refine R.call ⟨_, _, Try.func36, rfl, by kernel_rfl⟩ rfl rfl (nlen_any hs) ?_
        rintro _ w2242 ⟨rfl, hs⟩
        refine R.gyes rfl rfl ?_
        refine R.ev rfl ((E.eql rfl rfl).isT rfl) ?_
        refine R.ev rfl (E.pickT rfl rfl) ?_
        refine R.ev rfl (E.move rfl) ?_
        refine R.gyes rfl rfl ?_
        refine R.ev rfl (E.move rfl) ?_
        refine R.gyes rfl rfl ?_
        refine R.call ⟨_, _, Try.func30, rfl, by kernel_rfl⟩ rfl rfl (nclone_any hs) ?_
        rintro _ w2247 ⟨rfl, hs⟩
        refine R.gyes rfl rfl ?_
        refine R.ev rfl (E.eqlNilT rfl rfl Try.underlying54) ?_
        refine R.ev rfl (E.pickT rfl rfl) ?_
        refine R.ev rfl (E.move rfl) ?_
        refine R.gyes rfl rfl ?_
        refine R.ev rfl (E.move rfl) ?_
        refine R.gyes rfl rfl ?_
        refine R.call ⟨_, _, Try.func42, rfl, by kernel_rfl⟩ rfl rfl (nequal_any hs) ?_
        rintro _ w2252 ⟨rfl, hs⟩
        refine R.ev rfl (E.pickT rfl rfl) ?_
        refine R.ev rfl (E.move rfl) ?_
        refine R.gyes rfl rfl ?_
        refine R.ev rfl (E.move rfl) ?_
        refine R.gyes rfl rfl ?_
        refine R.call ⟨_, _, Try.func42, rfl, by kernel_rfl⟩ rfl rfl (equalNil_any (p := p) hs) ?_
        rintro _ w2256 ⟨rfl, hs⟩
        refine R.gyes rfl rfl ?_
        refine R.ev rfl ((E.not rfl).isB (c := true) rfl) ?_
        refine R.ev rfl (E.pickT rfl rfl) ?_
        refine R.ev rfl (E.assign rfl) ?_
        refine R.done ?_
        refine X.keep [(6, _)] ⟨rfl, trivial⟩ ?_
        refine X.next ?_
        refine C.ret ?_
        refine X.ret1 rfl rfl ?_
        exact ⟨rfl, (hs.less ((hk3.trans hk4).trans hk5).le).mod⟩
      · refine R.gskip rfl rfl rfl ?_
        refine R.gskip rfl rfl rfl ?_
        refine R.gskip rfl rfl rfl ?_
        refine R.gskip rfl rfl rfl ?_
        refine R.gundef rfl rfl ?_
        refine R.gundef rfl rfl ?_
        refine R.gundef rfl rfl ?_
        refine R.gundef rfl rfl ?_
        refine R.gskip rfl rfl rfl ?_
        refine R.ev rfl (E.pickF rfl rfl) ?_
        refine R.done ?_
        refine X.keep [(5, _), (7, _), (110, _)] ⟨rfl, rfl, rfl, trivial⟩ ?_
        refine X.next ?_
        refine C.cfalse rfl ?_
        refine C.skip ?_
        refine X.next ?_
        refine C.seq ?_
        refine C.region ?_
        refine R.ev rfl (E.assign rfl) ?_
        refine R.done ?_
        refine X.keep [(5, _), (7, _), (17, _)] ⟨rfl, rfl, rfl, trivial⟩ ?_
        refine X.next ?_
        refine C.seq ?_
        refine C.region ?_
        refine R.ev rfl (E.move rfl) ?_
        refine R.ev rfl (E.loadRowC rfl Try.underlying23 rfl Try.sz23 (by first | exact ⟨hs.ldA, by first | rfl | assumption | exact encV_len _ | exact Enc.len _ | exact len_ub (by assumption)⟩ | exact ⟨hs.ldP rfl, by first | rfl | assumption | exact encV_len _ | exact Enc.len _ | exact len_ub (by assumption)⟩ | exact ⟨hs.ldM rfl rfl, by first | rfl | assumption | exact encV_len _ | exact Enc.len _ | exact len_ub (by assumption)⟩ | exact ⟨hs.ldM (by assumption) (by first | rfl | assumption), by first | rfl | assumption | exact encV_len _ | exact Enc.len _ | exact len_ub (by assumption)⟩ | exact ⟨by assumption, by first | rfl | assumption | exact encV_len _ | exact Enc.len _ | exact len_ub (by assumption)⟩ | exact hs.ldp | exact At.partC (by assumption))) ?_
        refine R.call ⟨_, _, Try.func34, rfl, by kernel_rfl⟩ rfl rfl (nend_any a hs) ?_
        rintro _ w21 ⟨rfl, hs⟩
        refine R.ev rfl (E.move rfl) ?_
        refine R.ev rfl (E.extract rfl rfl) ?_
        refine R.ev rfl (E.extract rfl rfl) ?_
        refine R.sallocA hs Try.zr37 rfl ?_
        intro b18 w18 hs
        first | refine R.cstoreAll hs rfl rfl Try.sz37 (by first | rfl | assumption | exact encV_len _ | exact Enc.len _ | exact len_ub (by assumption) | simp [*]) (by first | rfl | assumption | exact encV_len _ | exact Enc.len _ | exact len_ub (by assumption) | simp [*]) (by first | assumption | exact OneL.all | exact Enc.one _ | exact ub_all _ | (repeat' (first | refine List.forall_mem_cons.2 ⟨?_, ?_⟩ | exact List.forall_mem_nil _ | rfl | exact OneC.one | exact KRow.oneC' (by assumption)))) ?_ | refine R.cstore hs rfl rfl Try.sz37 (by first | rfl | assumption | exact encV_len _ | exact Enc.len _ | exact len_ub (by assumption) | simp [*]) (by simp [*]) (by first | assumption | exact OneL.all | exact Enc.one _ | exact ub_all _ | (repeat' (first | refine List.forall_mem_cons.2 ⟨?_, ?_⟩ | exact List.forall_mem_nil _ | rfl | exact OneC.one | exact KRow.oneC' (by assumption)))) ?_
        intro w21_7 hs
        try simp only [List.set_cons_zero, List.set_cons_succ] at hs
        refine R.ev rfl (E.assign rfl) ?_
        refine R.done ?_
        refine X.keep [(5, _), (7, _), (17, _), (19, _)] ⟨rfl, rfl, rfl, rfl, trivial⟩ ?_
        refine X.next ?_
        refine C.seq ?_
        refine C.region ?_
        refine R.ev rfl (E.move rfl) ?_
        refine R.ev rfl (E.buildG (r := encA az) rfl Try.underlying42 Try.zr42 Try.ql42 (by kernel_rfl) (by kernel_rfl) trivial (by first | rfl | simp [setF, fieldsOf, Value.cells])) ?_
        refine R.call ⟨_, _, Try.func29, rfl, by kernel_rfl⟩ rfl rfl (nadd_any az hs) ?_
        rintro _ w222 ⟨rfl, hs⟩
        refine R.ev rfl ((E.eql rfl rfl).isT rfl) ?_
        refine R.ev rfl (E.move rfl) ?_
        refine R.gyes rfl rfl ?_
        refine R.ev rfl (E.move rfl) ?_
        refine R.gyes rfl rfl ?_
        refine R.ev rfl (E.loadRowC rfl Try.underlying23 rfl Try.sz23 (by first | exact ⟨hs.ldA, by first | rfl | assumption | exact encV_len _ | exact Enc.len _ | exact len_ub (by assumption)⟩ | exact ⟨hs.ldP rfl, by first | rfl | assumption | exact encV_len _ | exact Enc.len _ | exact len_ub (by assumption)⟩ | exact ⟨hs.ldM rfl rfl, by first | rfl | assumption | exact encV_len _ | exact Enc.len _ | exact len_ub (by assumption)⟩ | exact ⟨hs.ldM (by assumption) (by first | rfl | assumption), by first | rfl | assumption | exact encV_len _ | exact Enc.len _ | exact len_ub (by assumption)⟩ | exact ⟨by assumption, by first | rfl | assumption | exact encV_len _ | exact Enc.len _ | exact len_ub (by assumption)⟩ | exact hs.ldp | exact At.partC (by assumption))) ?_
        refine R.gyes rfl rfl ?_
        refine R.call ⟨_, _, Try.func31, rfl, by kernel_rfl⟩ rfl rfl (ndrop_any a hs) ?_
        rintro _ w227 ⟨rfl, hs⟩
        refine R.gyes rfl rfl ?_
        refine R.ev rfl ((E.eql rfl rfl).isT rfl) ?_
        refine R.ev rfl (E.pickT rfl rfl) ?_
        refine R.ev rfl (E.move rfl) ?_
        refine R.gyes rfl rfl ?_
        refine R.ev rfl (E.move rfl) ?_
        refine R.gyes rfl rfl ?_
        refine R.ev rfl (E.loadRowC rfl Try.underlying23 rfl Try.sz23 (by first | exact ⟨hs.ldA, by first | rfl | assumption | exact encV_len _ | exact Enc.len _ | exact len_ub (by assumption)⟩ | exact ⟨hs.ldP rfl, by first | rfl | assumption | exact encV_len _ | exact Enc.len _ | exact len_ub (by assumption)⟩ | exact ⟨hs.ldM rfl rfl, by first | rfl | assumption | exact encV_len _ | exact Enc.len _ | exact len_ub (by assumption)⟩ | exact ⟨hs.ldM (by assumption) (by first | rfl | assumption), by first | rfl | assumption | exact encV_len _ | exact Enc.len _ | exact len_ub (by assumption)⟩ | exact ⟨by assumption, by first | rfl | assumption | exact encV_len _ | exact Enc.len _ | exact len_ub (by assumption)⟩ | exact hs.ldp | exact At.partC (by assumption))) ?_
        refine R.gyes rfl rfl ?_
        refine R.call ⟨_, _, Try.func32, rfl, by kernel_rfl⟩ rfl rfl (nhas_any a hs) ?_
        rintro _ w2213 ⟨rfl, hs⟩
        refine R.gyes rfl rfl ?_
        refine R.ev rfl ((E.not rfl).isB (c := true) rfl) ?_
        refine R.ev rfl (E.pickT rfl rfl) ?_
        refine R.ev rfl (E.move rfl) ?_
        refine R.gyes rfl rfl ?_
        refine R.ev rfl (E.move rfl) ?_
        refine R.gyes rfl rfl ?_
        refine R.ev rfl (E.loadRowC rfl Try.underlying23 rfl Try.sz23 (by first | exact ⟨hs.ldA, by first | rfl | assumption | exact encV_len _ | exact Enc.len _ | exact len_ub (by assumption)⟩ | exact ⟨hs.ldP rfl, by first | rfl | assumption | exact encV_len _ | exact Enc.len _ | exact len_ub (by assumption)⟩ | exact ⟨hs.ldM rfl rfl, by first | rfl | assumption | exact encV_len _ | exact Enc.len _ | exact len_ub (by assumption)⟩ | exact ⟨hs.ldM (by assumption) (by first | rfl | assumption), by first | rfl | assumption | exact encV_len _ | exact Enc.len _ | exact len_ub (by assumption)⟩ | exact ⟨by assumption, by first | rfl | assumption | exact encV_len _ | exact Enc.len _ | exact len_ub (by assumption)⟩ | exact hs.ldp | exact At.partC (by assumption))) ?_
        refine R.gyes rfl rfl ?_
        refine R.call ⟨_, _, Try.func27, rfl, by kernel_rfl⟩ rfl rfl (nisWd_any a hs) ?_
        rintro _ w2219 ⟨rfl, hs⟩
        refine R.gyes rfl rfl ?_
        refine R.ev rfl ((E.not rfl).isB (c := true) rfl) ?_
        refine R.ev rfl (E.pickT rfl rfl) ?_
        refine R.ev rfl (E.move rfl) ?_
        refine R.gyes rfl rfl ?_
        refine R.ev rfl (E.move rfl) ?_
        refine R.gyes rfl rfl ?_
        refine R.ev rfl ((E.not rfl).isB (c := true) rfl) ?_
        refine R.ev rfl (E.pickT rfl rfl) ?_
        refine R.ev rfl (E.move rfl) ?_
        refine R.gyes rfl rfl ?_
        refine R.ev rfl (E.move rfl) ?_
        refine R.gyes rfl rfl ?_
        refine R.ev rfl (E.loadRowC rfl Try.underlying23 rfl Try.sz23 (by first | exact ⟨hs.ldA, by first | rfl | assumption | exact encV_len _ | exact Enc.len _ | exact len_ub (by assumption)⟩ | exact ⟨hs.ldP rfl, by first | rfl | assumption | exact encV_len _ | exact Enc.len _ | exact len_ub (by assumption)⟩ | exact ⟨hs.ldM rfl rfl, by first | rfl | assumption | exact encV_len _ | exact Enc.len _ | exact len_ub (by assumption)⟩ | exact ⟨hs.ldM (by assumption) (by first | rfl | assumption), by first | rfl | assumption | exact encV_len _ | exact Enc.len _ | exact len_ub (by assumption)⟩ | exact ⟨by assumption, by first | rfl | assumption | exact encV_len _ | exact Enc.len _ | exact len_ub (by assumption)⟩ | exact hs.ldp | exact At.partC (by assumption))) ?_
        refine R.gyes rfl rfl ?_
        refine R.call ⟨_, _, Try.func33, rfl, by kernel_rfl⟩ rfl rfl (npath_any a hs) ?_
        rintro _ w2229 ⟨rfl, hs⟩
        refine R.gyes rfl rfl ?_
        refine R.ev rfl (E.lenSl rfl Try.underlying40) ?_
        refine R.gyes rfl rfl ?_
        refine R.ev rfl ((E.eql rfl rfl).isT rfl) ?_
        refine R.ev rfl (E.pickT rfl rfl) ?_
        refine R.ev rfl (E.move rfl) ?_
        refine R.gyes rfl rfl ?_
        refine R.ev rfl (E.move rfl) ?_
        refine R.gyes rfl rfl ?_
        refine R.ev rfl (E.loadRowC rfl Try.underlying23 rfl Try.sz23 (by first | exact ⟨hs.ldA, by first | rfl | assumption | exact encV_len _ | exact Enc.len _ | exact len_ub (by assumption)⟩ | exact ⟨hs.ldP rfl, by first | rfl | assumption | exact encV_len _ | exact Enc.len _ | exact len_ub (by assumption)⟩ | exact ⟨hs.ldM rfl rfl, by first | rfl | assumption | exact encV_len _ | exact Enc.len _ | exact len_ub (by assumption)⟩ | exact ⟨hs.ldM (by assumption) (by first | rfl | assumption), by first | rfl | assumption | exact encV_len _ | exact Enc.len _ | exact len_ub (by assumption)⟩ | exact ⟨by assumption, by first | rfl | assumption | exact encV_len _ | exact Enc.len _ | exact len_ub (by assumption)⟩ | exact hs.ldp | exact At.partC (by assumption))) ?_
        refine R.gyes rfl rfl ?_
        refine R.call ⟨_, _, Try.func35, rfl, by kernel_rfl⟩ rfl rfl (nsuccs_any a hs) ?_
        rintro _ w2236 ⟨rfl, hs⟩
        refine R.gyes rfl rfl ?_
        refine R.ev rfl (E.lenSl rfl Try.underlying40) ?_
        refine R.gyes rfl rfl ?_
        refine R.ev rfl ((E.eql rfl rfl).isT rfl) ?_
        refine R.ev rfl (E.pickT rfl rfl) ?_
        refine R.ev rfl (E.move rfl) ?_
        refine R.gyes rfl rfl ?_
        refine R.ev rfl (E.move rfl) ?_
        refine R.gyes rfl rfl ?_
        refine R.call ⟨_, _, Try.func36, rfl, by kernel_rfl⟩ rfl rfl (nlen_any hs) ?_
        rintro _ w2242 ⟨rfl, hs⟩
        refine R.gyes rfl rfl ?_
        refine R.ev rfl ((E.eql rfl rfl).isT rfl) ?_
        refine R.ev rfl (E.pickT rfl rfl) ?_
        refine R.ev rfl (E.move rfl) ?_
        refine R.gyes rfl rfl ?_
        refine R.ev rfl (E.move rfl) ?_
        refine R.gyes rfl rfl ?_
        refine R.call ⟨_, _, Try.func30, rfl, by kernel_rfl⟩ rfl rfl (nclone_any hs) ?_
        rintro _ w2247 ⟨rfl, hs⟩
        refine R.gyes rfl rfl ?_
        refine R.ev rfl (E.eqlNilT rfl rfl Try.underlying54) ?_
        refine R.ev rfl (E.pickT rfl rfl) ?_
        refine R.ev rfl (E.move rfl) ?_
        refine R.gyes rfl rfl ?_
        refine R.ev rfl (E.move rfl) ?_
        refine R.gyes rfl rfl ?_
        refine R.call ⟨_, _, Try.func42, rfl, by kernel_rfl⟩ rfl rfl (nequal_any hs) ?_
        rintro _ w2252 ⟨rfl, hs⟩
        refine R.ev rfl (E.pickT rfl rfl) ?_
        refine R.ev rfl (E.move rfl) ?_
        refine R.gyes rfl rfl ?_
        refine R.ev rfl (E.move rfl) ?_
        refine R.gyes rfl rfl ?_
        refine R.call ⟨_, _, Try.func42, rfl, by kernel_rfl⟩ rfl rfl (equalNil_any (p := p) hs) ?_
        rintro _ w2256 ⟨rfl, hs⟩
        refine R.gyes rfl rfl ?_
        refine R.ev rfl ((E.not rfl).isB (c := true) rfl) ?_
        refine R.ev rfl (E.pickT rfl rfl) ?_
        refine R.ev rfl (E.assign rfl) ?_
        refine R.done ?_
        refine X.keep [(6, _)] ⟨rfl, trivial⟩ ?_
        refine X.next ?_
        refine C.ret ?_
        refine X.ret1 rfl rfl ?_
        exact ⟨rfl, (hs.less ((hk3.trans hk4).trans hk5).le).mod⟩
  · refine R.gskip rfl rfl rfl ?_
    refine R.ev rfl (E.pickF rfl rfl) ?_
    refine R.done ?_
    refine X.keep [(5, _), (7, _), (8, _), (10, _), (11, _), (13, _), (14, _), (51, _)] ⟨rfl, rfl, rfl, rfl, rfl, rfl, rfl, rfl, trivial⟩ ?_
    refine X.next ?_
    refine C.cfalse rfl ?_
    refine C.exit ?_
    refine X.thenExit ?_
    refine X.loopExit ?_
    refine X.blockExit ?_
    refine X.next ?_
    refine C.seq ?_
    refine C.seq ?_
    refine C.region ?_
    have hbe : b = eqL L L2 := by
      first
        | (rw [h51] at hb; rw [h51, eqK_no hb.symm])
        | (rw [hb, eqK_end (by have := of_decide_eq_false h49; omega)])
    subst hbe
    have n1 := nd_of hI.nd
    have n2 := nd_of hI2.nd
    refine R.ev rfl (E.move rfl) ?_
    refine R.ev rfl (E.move rfl) ?_
    refine R.call ⟨_, _, Try.func42, rfl, by kernel_rfl⟩ rfl rfl (equal_any hI hI2 hG hG2 hs) ?_
    rintro _ w13 ⟨rfl, hs⟩
    refine R.ev rfl (E.move rfl) ?_
    refine R.ev rfl ((E.neqB rfl rfl Try.underlying4).isB (c := false) (by simp)) ?_
    refine R.ev rfl (E.move rfl) ?_
    refine R.gyes rfl rfl ?_
    refine R.ev rfl (E.move rfl) ?_
    refine R.gyes rfl rfl ?_
    refine R.ev rfl (E.move rfl) ?_
    refine R.gyes rfl rfl ?_
    refine R.call ⟨_, _, Try.func42, rfl, by kernel_rfl⟩ rfl rfl (equal_any hI2 hI hG2 hG hs) ?_
    rintro _ w138 ⟨rfl, hs⟩
    rw [eqL_comm n2 n1]
    refine R.gyes rfl rfl ?_
    refine R.ev rfl (E.move rfl) ?_
    refine R.gyes rfl rfl ?_
    refine R.ev rfl ((E.neqB rfl rfl Try.underlying4).isB (c := false) (by simp)) ?_
    refine R.ev rfl (E.pickF rfl rfl) ?_
    refine R.done ?_
    refine X.keep [(5, _), (7, _), (85, _)] ⟨rfl, rfl, rfl, trivial⟩ ?_
    refine X.next ?_
    refine C.cfalse rfl ?_
    refine C.skip ?_
    refine X.next ?_
    refine C.seq ?_
    refine C.region ?_
    refine R.ev rfl (E.move rfl) ?_
    refine R.call ⟨_, _, Try.func30, rfl, by kernel_rfl⟩ rfl rfl (clone_any (p := p) hI hG (by omega) hs) ?_
    rintro _ w15 ⟨K5, c, M5, L5, F5, rfl, hk5, hp5, hI5, hG5, hw5, hs⟩
    have hG := hG.mono hk5
    refine R.ev rfl (E.assign rfl) ?_
    refine R.done ?_
    refine X.keep [(5, _), (7, _), (16, _)] ⟨rfl, rfl, rfl, trivial⟩ ?_
    refine X.next ?_
    refine C.seq ?_
    refine C.seq ?_
    refine C.region ?_
    refine R.ev rfl (E.move rfl) ?_
    refine R.ev rfl (E.eqlNilF rfl rfl Try.underlying54) ?_
    refine R.ev rfl (E.move rfl) ?_
    refine R.gyes rfl rfl ?_
    refine R.ev rfl (E.move rfl) ?_
    refine R.gyes rfl rfl ?_
    refine R.ev rfl (E.move rfl) ?_
    refine R.gyes rfl rfl ?_
    refine R.call ⟨_, _, Try.func42, rfl, by kernel_rfl⟩ rfl rfl (equal_any (p := c) (q := p) hI5 hI hG5 hG hs) ?_
    rintro _ w165 ⟨rfl, hs⟩
    rw [eqL_perm hp5]
    refine R.gyes rfl rfl ?_
    refine R.ev rfl ((E.not rfl).isB (c := false) rfl) ?_
    refine R.ev rfl (E.pickF rfl rfl) ?_
    refine R.done ?_
    refine X.keep [(5, _), (7, _), (16, _), (95, _)] ⟨rfl, rfl, rfl, rfl, trivial⟩ ?_
    refine X.next ?_
    refine C.cfalse rfl ?_
    refine C.skip ?_
    refine X.next ?_
    refine C.seq ?_
    refine C.seq ?_
    refine C.region ?_
    refine R.ev rfl (E.move rfl) ?_
    refine R.ev rfl (E.loadRowC rfl Try.underlying23 rfl Try.sz23 (by first | exact ⟨hs.ldA, by first | rfl | assumption | exact encV_len _ | exact Enc.len _ | exact len_ub (by assumption)⟩ | exact ⟨hs.ldP rfl, by first | rfl | assumption | exact encV_len _ | exact Enc.len _ | exact len_ub (by assumption)⟩ | exact ⟨hs.ldM rfl rfl, by first | rfl | assumption | exact encV_len _ | exact Enc.len _ | exact len_ub (by assumption)⟩ | exact ⟨hs.ldM (by assumption) (by first | rfl | assumption), by first | rfl | assumption | exact encV_len _ | exact Enc.len _ | exact len_ub (by assumption)⟩ | exact ⟨by assumption, by first | rfl | assumption | exact encV_len _ | exact Enc.len _ | exact len_ub (by assumption)⟩ | exact hs.ldp | exact At.partC (by assumption))) ?_
    refine R.call ⟨_, _, Try.func31, rfl, by kernel_rfl⟩ rfl rfl (drop_any (p := c) a hI5 hG5 hs) ?_
    rintro _ w18 ⟨rfl, M6, F6, hI6, hG6, hw6, hs⟩
    refine R.ev rfl (E.eql rfl rfl) ?_
    refine R.ev rfl (E.move rfl) ?_
    refine R.split 100 rfl (fun h100 => ?_) (fun h100 => ?_)
    · refine R.gyes rfl rfl ?_
      have hha : hasId a L5 = true := by
        have := of_decide_eq_true h100
        unfold rDropE at this
        split at this
        · assumption
        · exact absurd this (by decide)
      have hhL : hasId a L = true := hasId_iff.2 ((hp5.map RR.id).mem_iff.1 (hasId_iff.1 hha))
      have hdl := delL_len hha
      have hpl := hp5.length_eq
      refine R.ev rfl (E.move rfl) ?_
      refine R.gyes rfl rfl ?_
      refine R.ev rfl (E.move rfl) ?_
      refine R.gyes rfl rfl ?_
      refine R.call ⟨_, _, Try.func42, rfl, by kernel_rfl⟩ rfl rfl (equal_any (p := c) (q := p) hI6 hI hG6 hG hs) ?_
      rintro _ w187 ⟨rfl, hs⟩
      rw [show eqL (delL a L5) L = false by unfold eqL; rw [decide_eq_false (by omega), Bool.false_and]]
      refine R.gyes rfl rfl ?_
      refine R.ev rfl (E.move rfl) ?_
      refine R.gyes rfl rfl ?_
      refine R.ev rfl (E.move rfl) ?_
      refine R.gyes rfl rfl ?_
      refine R.ev rfl (E.loadRowC rfl Try.underlying23 rfl Try.sz23 (by first | exact ⟨hs.ldA, by first | rfl | assumption | exact encV_len _ | exact Enc.len _ | exact len_ub (by assumption)⟩ | exact ⟨hs.ldP rfl, by first | rfl | assumption | exact encV_len _ | exact Enc.len _ | exact len_ub (by assumption)⟩ | exact ⟨hs.ldM rfl rfl, by first | rfl | assumption | exact encV_len _ | exact Enc.len _ | exact len_ub (by assumption)⟩ | exact ⟨hs.ldM (by assumption) (by first | rfl | assumption), by first | rfl | assumption | exact encV_len _ | exact Enc.len _ | exact len_ub (by assumption)⟩ | exact ⟨by assumption, by first | rfl | assumption | exact encV_len _ | exact Enc.len _ | exact len_ub (by assumption)⟩ | exact hs.ldp | exact At.partC (by assumption))) ?_
      refine R.gyes rfl rfl ?_
      refine R.call ⟨_, _, Try.func32, rfl, by kernel_rfl⟩ rfl rfl (has_any (p := p) a hs) ?_
      rintro _ w1811 ⟨rfl, hs⟩
      rw [hI.has, hhL]
      refine R.gyes rfl rfl ?_
      refine R.ev rfl ((E.not rfl).isB (c := false) rfl) ?_
      refine R.gyes rfl rfl ?_
      refine R.ev rfl (E.pickF rfl rfl) ?_
      refine R.ev rfl (E.pickT rfl rfl) ?_
      refine R.done ?_
      refine X.keep [(5, _), (7, _), (110, _)] ⟨rfl, rfl, rfl, trivial⟩ ?_
      refine X.next ?_
      refine C.cfalse rfl ?_
      refine C.skip ?_
      refine X.next ?_
      refine C.seq ?_
      refine C.region ?_
      refine R.ev rfl (E.assign rfl) ?_
      refine R.done ?_
      refine X.keep [(5, _), (7, _), (17, _)] ⟨rfl, rfl, rfl, trivial⟩ ?_
      refine X.next ?_
      refine C.seq ?_
      refine C.region ?_
      refine R.ev rfl (E.move rfl) ?_
      refine R.ev rfl (E.loadRowC rfl Try.underlying23 rfl Try.sz23 (by first | exact ⟨hs.ldA, by first | rfl | assumption | exact encV_len _ | exact Enc.len _ | exact len_ub (by assumption)⟩ | exact ⟨hs.ldP rfl, by first | rfl | assumption | exact encV_len _ | exact Enc.len _ | exact len_ub (by assumption)⟩ | exact ⟨hs.ldM rfl rfl, by first | rfl | assumption | exact encV_len _ | exact Enc.len _ | exact len_ub (by assumption)⟩ | exact ⟨hs.ldM (by assumption) (by first | rfl | assumption), by first | rfl | assumption | exact encV_len _ | exact Enc.len _ | exact len_ub (by assumption)⟩ | exact ⟨by assumption, by first | rfl | assumption | exact encV_len _ | exact Enc.len _ | exact len_ub (by assumption)⟩ | exact hs.ldp | exact At.partC (by assumption))) ?_
      refine R.call ⟨_, _, Try.func34, rfl, by kernel_rfl⟩ rfl rfl (nend_any a hs) ?_
      rintro _ w21 ⟨rfl, hs⟩
      refine R.ev rfl (E.move rfl) ?_
      refine R.ev rfl (E.extract rfl rfl) ?_
      refine R.ev rfl (E.extract rfl rfl) ?_
      refine R.sallocA hs Try.zr37 rfl ?_
      intro b18 w18 hs
      first | refine R.cstoreAll hs rfl rfl Try.sz37 (by first | rfl | assumption | exact encV_len _ | exact Enc.len _ | exact len_ub (by assumption) | simp [*]) (by first | rfl | assumption | exact encV_len _ | exact Enc.len _ | exact len_ub (by assumption) | simp [*]) (by first | assumption | exact OneL.all | exact Enc.one _ | exact ub_all _ | (repeat' (first | refine List.forall_mem_cons.2 ⟨?_, ?_⟩ | exact List.forall_mem_nil _ | rfl | exact OneC.one | exact KRow.oneC' (by assumption)))) ?_ | refine R.cstore hs rfl rfl Try.sz37 (by first | rfl | assumption | exact encV_len _ | exact Enc.len _ | exact len_ub (by assumption) | simp [*]) (by simp [*]) (by first | assumption | exact OneL.all | exact Enc.one _ | exact ub_all _ | (repeat' (first | refine List.forall_mem_cons.2 ⟨?_, ?_⟩ | exact List.forall_mem_nil _ | rfl | exact OneC.one | exact KRow.oneC' (by assumption)))) ?_
      intro w21_7 hs
      try simp only [List.set_cons_zero, List.set_cons_succ] at hs
      refine R.ev rfl (E.assign rfl) ?_
      refine R.done ?_
      refine X.keep [(5, _), (7, _), (17, _), (19, _)] ⟨rfl, rfl, rfl, rfl, trivial⟩ ?_
      refine X.next ?_
      refine C.seq ?_
      refine C.region ?_
      refine R.ev rfl (E.move rfl) ?_
      refine R.ev rfl (E.buildG (r := encA az) rfl Try.underlying42 Try.zr42 Try.ql42 (by kernel_rfl) (by kernel_rfl) trivial (by first | rfl | simp [setF, fieldsOf, Value.cells])) ?_
      refine R.call ⟨_, _, Try.func29, rfl, by kernel_rfl⟩ rfl rfl (nadd_any az hs) ?_
      rintro _ w222 ⟨rfl, hs⟩
      refine R.ev rfl ((E.eql rfl rfl).isT rfl) ?_
      refine R.ev rfl (E.move rfl) ?_
      refine R.gyes rfl rfl ?_
      refine R.ev rfl (E.move rfl) ?_
      refine R.gyes rfl rfl ?_
      refine R.ev rfl (E.loadRowC rfl Try.underlying23 rfl Try.sz23 (by first | exact ⟨hs.ldA, by first | rfl | assumption | exact encV_len _ | exact Enc.len _ | exact len_ub (by assumption)⟩ | exact ⟨hs.ldP rfl, by first | rfl | assumption | exact encV_len _ | exact Enc.len _ | exact len_ub (by assumption)⟩ | exact ⟨hs.ldM rfl rfl, by first | rfl | assumption | exact encV_len _ | exact Enc.len _ | exact len_ub (by assumption)⟩ | exact ⟨hs.ldM (by assumption) (by first | rfl | assumption), by first | rfl | assumption | exact encV_len _ | exact Enc.len _ | exact len_ub (by assumption)⟩ | exact ⟨by assumption, by first | rfl | assumption | exact encV_len _ | exact Enc.len _ | exact len_ub (by assumption)⟩ | exact hs.ldp | exact At.partC (by assumption))) ?_
      refine R.gyes rfl rfl ?_
      refine R.call ⟨_, _, Try.func31, rfl, by kernel_rfl⟩ rfl rfl (ndrop_any a hs) ?_
      rintro _ w227 ⟨rfl, hs⟩
      refine R.gyes rfl rfl ?_
      refine R.ev rfl ((E.eql rfl rfl).isT rfl) ?_
      refine R.ev rfl (E.pickT rfl rfl) ?_
      refine R.ev rfl (E.move rfl) ?_
      refine R.gyes rfl rfl ?_
      refine R.ev rfl (E.move rfl) ?_
      refine R.gyes rfl rfl ?_
      refine R.ev rfl (E.loadRowC rfl Try.underlying23 rfl Try.sz23 (by first | exact ⟨hs.ldA, by first | rfl | assumption | exact encV_len _ | exact Enc.len _ | exact len_ub (by assumption)⟩ | exact ⟨hs.ldP rfl, by first | rfl | assumption | exact encV_len _ | exact Enc.len _ | exact len_ub (by assumption)⟩ | exact ⟨hs.ldM rfl rfl, by first | rfl | assumption | exact encV_len _ | exact Enc.len _ | exact len_ub (by assumption)⟩ | exact ⟨hs.ldM (by assumption) (by first | rfl | assumption), by first | rfl | assumption | exact encV_len _ | exact Enc.len _ | exact len_ub (by assumption)⟩ | exact ⟨by assumption, by first | rfl | assumption | exact encV_len _ | exact Enc.len _ | exact len_ub (by assumption)⟩ | exact hs.ldp | exact At.partC (by assumption))) ?_
      refine R.gyes rfl rfl ?_
      refine R.call ⟨_, _, Try.func32, rfl, by kernel_rfl⟩ rfl rfl (nhas_any a hs) ?_
      rintro _ w2213 ⟨rfl, hs⟩
      refine R.gyes rfl rfl ?_
      refine R.ev rfl ((E.not rfl).isB (c := true) rfl) ?_
      refine R.ev rfl (E.pickT rfl rfl) ?_
      refine R.ev rfl (E.move rfl) ?_
      refine R.gyes rfl rfl ?_
      refine R.ev rfl (E.move rfl) ?_
      refine R.gyes rfl rfl ?_
      refine R.ev rfl (E.loadRowC rfl Try.underlying23 rfl Try.sz23 (by first | exact ⟨hs.ldA, by first | rfl | assumption | exact encV_len _ | exact Enc.len _ | exact len_ub (by assumption)⟩ | exact ⟨hs.ldP rfl, by first | rfl | assumption | exact encV_len _ | exact Enc.len _ | exact len_ub (by assumption)⟩ | exact ⟨hs.ldM rfl rfl, by first | rfl | assumption | exact encV_len _ | exact Enc.len _ | exact len_ub (by assumption)⟩ | exact ⟨hs.ldM (by assumption) (by first | rfl | assumption), by first | rfl | assumption | exact encV_len _ | exact Enc.len _ | exact len_ub (by assumption)⟩ | exact ⟨by assumption, by first | rfl | assumption | exact encV_len _ | exact Enc.len _ | exact len_ub (by assumption)⟩ | exact hs.ldp | exact At.partC (by assumption))) ?_
      refine R.gyes rfl rfl ?_
      refine R.call ⟨_, _, Try.func27, rfl, by kernel_rfl⟩ rfl rfl (nisWd_any a hs) ?_
      rintro _ w2219 ⟨rfl, hs⟩
      refine R.gyes rfl rfl ?_
      refine R.ev rfl ((E.not rfl).isB (c := true) rfl) ?_
      refine R.ev rfl (E.pickT rfl rfl) ?_
      refine R.ev rfl (E.move rfl) ?_
      refine R.gyes rfl rfl ?_
      refine R.ev rfl (E.move rfl) ?_
      refine R.gyes rfl rfl ?_
      refine R.ev rfl ((E.not rfl).isB (c := true) rfl) ?_
      refine R.ev rfl (E.pickT rfl rfl) ?_
      refine R.ev rfl (E.move rfl) ?_
      refine R.gyes rfl rfl ?_
      refine R.ev rfl (E.move rfl) ?_
      refine R.gyes rfl rfl ?_
      refine R.ev rfl (E.loadRowC rfl Try.underlying23 rfl Try.sz23 (by first | exact ⟨hs.ldA, by first | rfl | assumption | exact encV_len _ | exact Enc.len _ | exact len_ub (by assumption)⟩ | exact ⟨hs.ldP rfl, by first | rfl | assumption | exact encV_len _ | exact Enc.len _ | exact len_ub (by assumption)⟩ | exact ⟨hs.ldM rfl rfl, by first | rfl | assumption | exact encV_len _ | exact Enc.len _ | exact len_ub (by assumption)⟩ | exact ⟨hs.ldM (by assumption) (by first | rfl | assumption), by first | rfl | assumption | exact encV_len _ | exact Enc.len _ | exact len_ub (by assumption)⟩ | exact ⟨by assumption, by first | rfl | assumption | exact encV_len _ | exact Enc.len _ | exact len_ub (by assumption)⟩ | exact hs.ldp | exact At.partC (by assumption))) ?_
      refine R.gyes rfl rfl ?_
      refine R.call ⟨_, _, Try.func33, rfl, by kernel_rfl⟩ rfl rfl (npath_any a hs) ?_
      rintro _ w2229 ⟨rfl, hs⟩
      refine R.gyes rfl rfl ?_
      refine R.ev rfl (E.lenSl rfl Try.underlying40) ?_
      refine R.gyes rfl rfl ?_
      refine R.ev rfl ((E.eql rfl rfl).isT rfl) ?_
      refine R.ev rfl (E.pickT rfl rfl) ?_
      refine R.ev rfl (E.move rfl) ?_
      refine R.gyes rfl rfl ?_
      refine R.ev rfl (E.move rfl) ?_
      refine R.gyes rfl rfl ?_
      refine R.ev rfl (E.loadRowC rfl Try.underlying23 rfl Try.sz23 (by first | exact ⟨hs.ldA, by first | rfl | assumption | exact encV_len _ | exact Enc.len _ | exact len_ub (by assumption)⟩ | exact ⟨hs.ldP rfl, by first | rfl | assumption | exact encV_len _ | exact Enc.len _ | exact len_ub (by assumption)⟩ | exact ⟨hs.ldM rfl rfl, by first | rfl | assumption | exact encV_len _ | exact Enc.len _ | exact len_ub (by assumption)⟩ | exact ⟨hs.ldM (by assumption) (by first | rfl | assumption), by first | rfl | assumption | exact encV_len _ | exact Enc.len _ | exact len_ub (by assumption)⟩ | exact ⟨by assumption, by first | rfl | assumption | exact encV_len _ | exact Enc.len _ | exact len_ub (by assumption)⟩ | exact hs.ldp | exact At.partC (by assumption))) ?_
      refine R.gyes rfl rfl ?_
      refine R.call ⟨_, _, Try.func35, rfl, by kernel_rfl⟩ rfl rfl (nsuccs_any a hs) ?_
      rintro _ w2236 ⟨rfl, hs⟩
      refine R.gyes rfl rfl ?_
      refine R.ev rfl (E.lenSl rfl Try.underlying40) ?_
      refine R.gyes rfl rfl ?_
      refine R.ev rfl ((E.eql rfl rfl).isT rfl) ?_
      refine R.ev rfl (E.pickT rfl rfl) ?_
      refine R.ev rfl (E.move rfl) ?_
      refine R.gyes rfl rfl ?_
      refine R.ev rfl (E.move rfl) ?_
      refine R.gyes rfl rfl ?_
      refine R.call ⟨_, _, Try.func36, rfl, by kernel_rfl⟩ rfl rfl (nlen_any hs) ?_
      rintro _ w2242 ⟨rfl, hs⟩
      refine R.gyes rfl rfl ?_
      refine R.ev rfl ((E.eql rfl rfl).isT rfl) ?_
      refine R.ev rfl (E.pickT rfl rfl) ?_
      refine R.ev rfl (E.move rfl) ?_
      refine R.gyes rfl rfl ?_
      refine R.ev rfl (E.move rfl) ?_
      refine R.gyes rfl rfl ?_
      refine R.call ⟨_, _, Try.func30, rfl, by kernel_rfl⟩ rfl rfl (nclone_any hs) ?_
      rintro _ w2247 ⟨rfl, hs⟩
      refine R.gyes rfl rfl ?_
      refine R.ev rfl (E.eqlNilT rfl rfl Try.underlying54) ?_
      refine R.ev rfl (E.pickT rfl rfl) ?_
      refine R.ev rfl (E.move rfl) ?_
      refine R.gyes rfl rfl ?_
      refine R.ev rfl (E.move rfl) ?_
      refine R.gyes rfl rfl ?_
      refine R.call ⟨_, _, Try.func42, rfl, by kernel_rfl⟩ rfl rfl (nequal_any hs) ?_
      rintro _ w2252 ⟨rfl, hs⟩
      refine R.ev rfl (E.pickT rfl rfl) ?_
      refine R.ev rfl (E.move rfl) ?_
      refine R.gyes rfl rfl ?_
      refine R.ev rfl (E.move rfl) ?_
      refine R.gyes rfl rfl ?_
      refine R.call ⟨_, _, Try.func42, rfl, by kernel_rfl⟩ rfl rfl (equalNil_any (p := p) hs) ?_
      rintro _ w2256 ⟨rfl, hs⟩
      refine R.gyes rfl rfl ?_
      refine R.ev rfl ((E.not rfl).isB (c := true) rfl) ?_
      refine R.ev rfl (E.pickT rfl rfl) ?_
      refine R.ev rfl (E.assign rfl) ?_
      refine R.done ?_
      refine X.keep [(6, _)] ⟨rfl, trivial⟩ ?_
      refine X.next ?_
      refine C.ret ?_
      refine X.ret1 rfl rfl ?_
      exact ⟨rfl, (hs.less ((hk3.trans hk4).trans hk5).le).mod⟩
    · refine R.gskip rfl rfl rfl ?_
      refine R.gskip rfl rfl rfl ?_
      refine R.gskip rfl rfl rfl ?_
      refine R.gskip rfl rfl rfl ?_
      refine R.gundef rfl rfl ?_
      refine R.gundef rfl rfl ?_
      refine R.gundef rfl rfl ?_
      refine R.gundef rfl rfl ?_
      refine R.gskip rfl rfl rfl ?_
      refine R.ev rfl (E.pickF rfl rfl) ?_
      refine R.done ?_
      refine X.keep [(5, _), (7, _), (110, _)] ⟨rfl, rfl, rfl, trivial⟩ ?_
      refine X.next ?_
      refine C.cfalse rfl ?_
      refine C.skip ?_
      refine X.next ?_
      refine C.seq ?_
      refine C.region ?_
      refine R.ev rfl (E.assign rfl) ?_
      refine R.done ?_
      refine X.keep [(5, _), (7, _), (17, _)] ⟨rfl, rfl, rfl, trivial⟩ ?_
      refine X.next ?_
      refine C.seq ?_
      refine C.region ?_
      refine R.ev rfl (E.move rfl) ?_
      refine R.ev rfl (E.loadRowC rfl Try.underlying23 rfl Try.sz23 (by first | exact ⟨hs.ldA, by first | rfl | assumption | exact encV_len _ | exact Enc.len _ | exact len_ub (by assumption)⟩ | exact ⟨hs.ldP rfl, by first | rfl | assumption | exact encV_len _ | exact Enc.len _ | exact len_ub (by assumption)⟩ | exact ⟨hs.ldM rfl rfl, by first | rfl | assumption | exact encV_len _ | exact Enc.len _ | exact len_ub (by assumption)⟩ | exact ⟨hs.ldM (by assumption) (by first | rfl | assumption), by first | rfl | assumption | exact encV_len _ | exact Enc.len _ | exact len_ub (by assumption)⟩ | exact ⟨by assumption, by first | rfl | assumption | exact encV_len _ | exact Enc.len _ | exact len_ub (by assumption)⟩ | exact hs.ldp | exact At.partC (by assumption))) ?_
      refine R.call ⟨_, _, Try.func34, rfl, by kernel_rfl⟩ rfl rfl (nend_any a hs) ?_
      rintro _ w21 ⟨rfl, hs⟩
      refine R.ev rfl (E.move rfl) ?_
      refine R.ev rfl (E.extract rfl rfl) ?_
      refine R.ev rfl (E.extract rfl rfl) ?_
      refine R.sallocA hs Try.zr37 rfl ?_
      intro b18 w18 hs
      first | refine R.cstoreAll hs rfl rfl Try.sz37 (by first | rfl | assumption | exact encV_len _ | exact Enc.len _ | exact len_ub (by assumption) | simp [*]) (by first | rfl | assumption | exact encV_len _ | exact Enc.len _ | exact len_ub (by assumption) | simp [*]) (by first | assumption | exact OneL.all | exact Enc.one _ | exact ub_all _ | (repeat' (first | refine List.forall_mem_cons.2 ⟨?_, ?_⟩ | exact List.forall_mem_nil _ | rfl | exact OneC.one | exact KRow.oneC' (by assumption)))) ?_ | refine R.cstore hs rfl rfl Try.sz37 (by first | rfl | assumption | exact encV_len _ | exact Enc.len _ | exact len_ub (by assumption) | simp [*]) (by simp [*]) (by first | assumption | exact OneL.all | exact Enc.one _ | exact ub_all _ | (repeat' (first | refine List.forall_mem_cons.2 ⟨?_, ?_⟩ | exact List.forall_mem_nil _ | rfl | exact OneC.one | exact KRow.oneC' (by assumption)))) ?_
      intro w21_7 hs
      try simp only [List.set_cons_zero, List.set_cons_succ] at hs
      refine R.ev rfl (E.assign rfl) ?_
      refine R.done ?_
      refine X.keep [(5, _), (7, _), (17, _), (19, _)] ⟨rfl, rfl, rfl, rfl, trivial⟩ ?_
      refine X.next ?_
      refine C.seq ?_
      refine C.region ?_
      refine R.ev rfl (E.move rfl) ?_
      refine R.ev rfl (E.buildG (r := encA az) rfl Try.underlying42 Try.zr42 Try.ql42 (by kernel_rfl) (by kernel_rfl) trivial (by first | rfl | simp [setF, fieldsOf, Value.cells])) ?_
      refine R.call ⟨_, _, Try.func29, rfl, by kernel_rfl⟩ rfl rfl (nadd_any az hs) ?_
      rintro _ w222 ⟨rfl, hs⟩
      refine R.ev rfl ((E.eql rfl rfl).isT rfl) ?_
      refine R.ev rfl (E.move rfl) ?_
      refine R.gyes rfl rfl ?_
      refine R.ev rfl (E.move rfl) ?_
      refine R.gyes rfl rfl ?_
      refine R.ev rfl (E.loadRowC rfl Try.underlying23 rfl Try.sz23 (by first | exact ⟨hs.ldA, by first | rfl | assumption | exact encV_len _ | exact Enc.len _ | exact len_ub (by assumption)⟩ | exact ⟨hs.ldP rfl, by first | rfl | assumption | exact encV_len _ | exact Enc.len _ | exact len_ub (by assumption)⟩ | exact ⟨hs.ldM rfl rfl, by first | rfl | assumption | exact encV_len _ | exact Enc.len _ | exact len_ub (by assumption)⟩ | exact ⟨hs.ldM (by assumption) (by first | rfl | assumption), by first | rfl | assumption | exact encV_len _ | exact Enc.len _ | exact len_ub (by assumption)⟩ | exact ⟨by assumption, by first | rfl | assumption | exact encV_len _ | exact Enc.len _ | exact len_ub (by assumption)⟩ | exact hs.ldp | exact At.partC (by assumption))) ?_
      refine R.gyes rfl rfl ?_
      refine R.call ⟨_, _, Try.func31, rfl, by kernel_rfl⟩ rfl rfl (ndrop_any a hs) ?_
      rintro _ w227 ⟨rfl, hs⟩
      refine R.gyes rfl rfl ?_
      refine R.ev rfl ((E.eql rfl rfl).isT rfl) ?_
      refine R.ev rfl (E.pickT rfl rfl) ?_
      refine R.ev rfl (E.move rfl) ?_
      refine R.gyes rfl rfl ?_
      refine R.ev rfl (E.move rfl) ?_
      refine R.gyes rfl rfl ?_
      refine R.ev rfl (E.loadRowC rfl Try.underlying23 rfl Try.sz23 (by first | exact ⟨hs.ldA, by first | rfl | assumption | exact encV_len _ | exact Enc.len _ | exact len_ub (by assumption)⟩ | exact ⟨hs.ldP rfl, by first | rfl | assumption | exact encV_len _ | exact Enc.len _ | exact len_ub (by assumption)⟩ | exact ⟨hs.ldM rfl rfl, by first | rfl | assumption | exact encV_len _ | exact Enc.len _ | exact len_ub (by assumption)⟩ | exact ⟨hs.ldM (by assumption) (by first | rfl | assumption), by first | rfl | assumption | exact encV_len _ | exact Enc.len _ | exact len_ub (by assumption)⟩ | exact ⟨by assumption, by first | rfl | assumption | exact encV_len _ | exact Enc.len _ | exact len_ub (by assumption)⟩ | exact hs.ldp | exact At.partC (by assumption))) ?_
      refine R.gyes rfl rfl ?_
      refine R.call ⟨_, _, Try.func32, rfl, by kernel_rfl⟩ rfl rfl (nhas_any a hs) ?_
      rintro _ w2213 ⟨rfl, hs⟩
      refine R.gyes rfl rfl ?_
      refine R.ev rfl ((E.not rfl).isB (c := true) rfl) ?_
      refine R.ev rfl (E.pickT rfl rfl) ?_
      refine R.ev rfl (E.move rfl) ?_
      refine R.gyes rfl rfl ?_
      refine R.ev rfl (E.move rfl) ?_
      refine R.gyes rfl rfl ?_
      refine R.ev rfl (E.loadRowC rfl Try.underlying23 rfl Try.sz23 (by first | exact ⟨hs.ldA, by first | rfl | assumption | exact encV_len _ | exact Enc.len _ | exact len_ub (by assumption)⟩ | exact ⟨hs.ldP rfl, by first | rfl | assumption | exact encV_len _ | exact Enc.len _ | exact len_ub (by assumption)⟩ | exact ⟨hs.ldM rfl rfl, by first | rfl | assumption | exact encV_len _ | exact Enc.len _ | exact len_ub (by assumption)⟩ | exact ⟨hs.ldM (by assumption) (by first | rfl | assumption), by first | rfl | assumption | exact encV_len _ | exact Enc.len _ | exact len_ub (by assumption)⟩ | exact ⟨by assumption, by first | rfl | assumption | exact encV_len _ | exact Enc.len _ | exact len_ub (by assumption)⟩ | exact hs.ldp | exact At.partC (by assumption))) ?_
      refine R.gyes rfl rfl ?_
      refine R.call ⟨_, _, Try.func27, rfl, by kernel_rfl⟩ rfl rfl (nisWd_any a hs) ?_
      rintro _ w2219 ⟨rfl, hs⟩
      refine R.gyes rfl rfl ?_
      refine R.ev rfl ((E.not rfl).isB (c := true) rfl) ?_
      refine R.ev rfl (E.pickT rfl rfl) ?_
      refine R.ev rfl (E.move rfl) ?_
      refine R.gyes rfl rfl ?_
      refine R.ev rfl (E.move rfl) ?_
      refine R.gyes rfl rfl ?_
      refine R.ev rfl ((E.not rfl).isB (c := true) rfl) ?_
      refine R.ev rfl (E.pickT rfl rfl) ?_
      refine R.ev rfl (E.move rfl) ?_
      refine R.gyes rfl rfl ?_
      refine R.ev rfl (E.move rfl) ?_
      refine R.gyes rfl rfl ?_
      refine R.ev rfl (E.loadRowC rfl Try.underlying23 rfl Try.sz23 (by first | exact ⟨hs.ldA, by first | rfl | assumption | exact encV_len _ | exact Enc.len _ | exact len_ub (by assumption)⟩ | exact ⟨hs.ldP rfl, by first | rfl | assumption | exact encV_len _ | exact Enc.len _ | exact len_ub (by assumption)⟩ | exact ⟨hs.ldM rfl rfl, by first | rfl | assumption | exact encV_len _ | exact Enc.len _ | exact len_ub (by assumption)⟩ | exact ⟨hs.ldM (by assumption) (by first | rfl | assumption), by first | rfl | assumption | exact encV_len _ | exact Enc.len _ | exact len_ub (by assumption)⟩ | exact ⟨by assumption, by first | rfl | assumption | exact encV_len _ | exact Enc.len _ | exact len_ub (by assumption)⟩ | exact hs.ldp | exact At.partC (by assumption))) ?_
      refine R.gyes rfl rfl ?_
      refine R.call ⟨_, _, Try.func33, rfl, by kernel_rfl⟩ rfl rfl (npath_any a hs) ?_
      rintro _ w2229 ⟨rfl, hs⟩
      refine R.gyes rfl rfl ?_
      refine R.ev rfl (E.lenSl rfl Try.underlying40) ?_
      refine R.gyes rfl rfl ?_
      refine R.ev rfl ((E.eql rfl rfl).isT rfl) ?_
      refine R.ev rfl (E.pickT rfl rfl) ?_
      refine R.ev rfl (E.move rfl) ?_
      refine R.gyes rfl rfl ?_
      refine R.ev rfl (E.move rfl) ?_
      refine R.gyes rfl rfl ?_
      refine R.ev rfl (E.loadRowC rfl Try.underlying23 rfl Try.sz23 (by first | exact ⟨hs.ldA, by first | rfl | assumption | exact encV_len _ | exact Enc.len _ | exact len_ub (by assumption)⟩ | exact ⟨hs.ldP rfl, by first | rfl | assumption | exact encV_len _ | exact Enc.len _ | exact len_ub (by assumption)⟩ | exact ⟨hs.ldM rfl rfl, by first | rfl | assumption | exact encV_len _ | exact Enc.len _ | exact len_ub (by assumption)⟩ | exact ⟨hs.ldM (by assumption) (by first | rfl | assumption), by first | rfl | assumption | exact encV_len _ | exact Enc.len _ | exact len_ub (by assumption)⟩ | exact ⟨by assumption, by first | rfl | assumption | exact encV_len _ | exact Enc.len _ | exact len_ub (by assumption)⟩ | exact hs.ldp | exact At.partC (by assumption))) ?_
      refine R.gyes rfl rfl ?_
      refine R.call ⟨_, _, Try.func35, rfl, by kernel_rfl⟩ rfl rfl (nsuccs_any a hs) ?_
      rintro _ w2236 ⟨rfl, hs⟩
      refine R.gyes rfl rfl ?_
      refine R.ev rfl (E.lenSl rfl Try.underlying40) ?_
      refine R.gyes rfl rfl ?_
      refine R.ev rfl ((E.eql rfl rfl).isT rfl) ?_
      refine R.ev rfl (E.pickT rfl rfl) ?_
      refine R.ev rfl (E.move rfl) ?_
      refine R.gyes rfl rfl ?_
      refine R.ev rfl (E.move rfl) ?_
      refine R.gyes rfl rfl ?_
      refine R.call ⟨_, _, Try.func36, rfl, by kernel_rfl⟩ rfl rfl (nlen_any hs) ?_
      rintro _ w2242 ⟨rfl, hs⟩
      refine R.gyes rfl rfl ?_
      refine R.ev rfl ((E.eql rfl rfl).isT rfl) ?_
      refine R.ev rfl (E.pickT rfl rfl) ?_
      refine R.ev rfl (E.move rfl) ?_
      refine R.gyes rfl rfl ?_
      refine R.ev rfl (E.move rfl) ?_
      refine R.gyes rfl rfl ?_
      refine R.call ⟨_, _, Try.func30, rfl, by kernel_rfl⟩ rfl rfl (nclone_any hs) ?_
      rintro _ w2247 ⟨rfl, hs⟩
      refine R.gyes rfl rfl ?_
      refine R.ev rfl (E.eqlNilT rfl rfl Try.underlying54) ?_
      refine R.ev rfl (E.pickT rfl rfl) ?_
      refine R.ev rfl (E.move rfl) ?_
      refine R.gyes rfl rfl ?_
      refine R.ev rfl (E.move rfl) ?_
      refine R.gyes rfl rfl ?_
      refine R.call ⟨_, _, Try.func42, rfl, by kernel_rfl⟩ rfl rfl (nequal_any hs) ?_
      rintro _ w2252 ⟨rfl, hs⟩
      refine R.ev rfl (E.pickT rfl rfl) ?_
      refine R.ev rfl (E.move rfl) ?_
      refine R.gyes rfl rfl ?_
      refine R.ev rfl (E.move rfl) ?_
      refine R.gyes rfl rfl ?_
      refine R.call ⟨_, _, Try.func42, rfl, by kernel_rfl⟩ rfl rfl (equalNil_any (p := p) hs) ?_
      rintro _ w2256 ⟨rfl, hs⟩
      refine R.gyes rfl rfl ?_
      refine R.ev rfl ((E.not rfl).isB (c := true) rfl) ?_
      refine R.ev rfl (E.pickT rfl rfl) ?_
      refine R.ev rfl (E.assign rfl) ?_
      refine R.done ?_
      refine X.keep [(6, _)] ⟨rfl, trivial⟩ ?_
      refine X.next ?_
      refine C.ret ?_
      refine X.ret1 rfl rfl ?_
      exact ⟨rfl, (hs.less ((hk3.trans hk4).trans hk5).le).mod⟩

namespace supersedeClones
open Go.ChangeShapes Go.WideShapes Go.ChangeAt Go.RowKit
open Go.ChangeMaps (open_string shut_string)
set_option linter.unusedVariables false

theorem own : ownKnob Try.prog.godebug = none := by kernel_rfl
theorem laidOut : laidOutB Try.prog = true := by kernel_rfl
set_option maxRecDepth 100000 in
theorem lifted (os : Os) (started : os.Started) (H : Type) (enc : TypeId × Value → H) :
    ReturnsInHanded {} Try.checked os 12 .any (Rows.supersedeClonesSpec.pre6 enc Try.prog Try.f12 Rows.supersedeClonesRow.domain false) (Rows.supersedeClonesSpec.post enc Try.prog Try.f12 false true false false) := by
  refine returnsInHanded_of_change (C := Try.checked) own started (by kernel_rfl) Try.func12
    (ChangeSpec.witness6 (enc := enc) (C := Try.checked) false ⟨#[], #[.slice none 0 0, .slice none 0 0, .agg #[.int .u8 0, .int .u8 0, .int .u8 0, .int .u8 0, .int .u8 0, .int .u8 0, .int .u8 0, .int .u8 0, .int .u8 0, .int .u8 0, .int .u8 0, .int .u8 0, .int .u8 0, .int .u8 0, .int .u8 0, .int .u8 0, .int .u8 0, .int .u8 0, .int .u8 0, .int .u8 0, .int .u8 0, .int .u8 0, .int .u8 0, .int .u8 0, .int .u8 0, .int .u8 0, .int .u8 0, .int .u8 0, .int .u8 0, .int .u8 0, .int .u8 0, .int .u8 0]], []⟩ 8 (by kernel_rfl) (by kernel_rfl) (by kernel_rfl) (by kernel_rfl)) ?_
  intro W base args ds gs before hval0 hW hcnd _
  have hval : ∀ (j : Nat) t v, Try.f12.params[j]? = some t → args[j]? = some v → Value.okWide Try.prog W .any base t v := hval0
  have hW' := hW
  obtain ⟨p, q, hA0, hV, rfl, hfz, hnd⟩ := hW
  have hA : DataW.TrodAll enc Try.prog W 0 (fun _ => true) true Try.f12.params.toList args.toList ds p := hA0
  rw [Try.params12] at hA hval
  obtain ⟨v0, vs0, d0, ds0, p0, q0, hargs, rfl, rfl, h0, r0⟩ := trodAll_cons hA
  obtain ⟨v1, vs1, d1, ds1, p1, q1, rfl, rfl, rfl, h1, r1⟩ := trodAll_cons r0
  obtain ⟨v2, vs2, d2, ds2, p2, q2, rfl, rfl, rfl, h2, r2⟩ := trodAll_cons r1
  obtain ⟨rfl, rfl, rfl⟩ := trodAll_nil r2
  obtain rfl : args = #[v0, v1, v2] := by cases args; simp_all
  obtain ⟨rfl, rfl⟩ := trodVars_none hV
  have lt0 : ∀ x ∈ p0, x.block < W.heap.size := by obtain ⟨m, hm⟩ := h0; exact DataW.trod_lt m _ _ _ hm
  have a0 := Eng.argv_of (hval 0 58 v0 rfl rfl) h0
  have lt1 : ∀ x ∈ p1, x.block < W.heap.size := by obtain ⟨m, hm⟩ := h1; exact DataW.trod_lt m _ _ _ hm
  have a1 := Eng.argv_of (hval 1 58 v1 rfl rfl) h1
  have lt2 : ∀ x ∈ p2, x.block < W.heap.size := by obtain ⟨m, hm⟩ := h2; exact DataW.trod_lt m _ _ _ hm
  have a2 := Eng.argv_of (hval 2 23 v2 rfl rfl) h2
  clear hA0 hval0
  refine Calls.mono (clones_walk W v0 a0 v1 a1 v2 a2) fun e W' ⟨v, he, hv, hm⟩ => ?_
  subst he
  subst hv
  have bel := hm.below
  exact ⟨_, rfl, _, _, _, [], _, [], hW', trodAll_mk1 (shut_bool Try.underlying4 _), (trodAll_cons_mk (Below.trod laidOut (by kernel_rfl) (of_decide_eq_true (by kernel_rfl)) h0 bel lt0) (trodAll_cons_mk (Below.trod laidOut (by kernel_rfl) (of_decide_eq_true (by kernel_rfl)) h1 bel lt1) (trodAll_cons_mk (Below.trod laidOut (by kernel_rfl) (of_decide_eq_true (by kernel_rfl)) h2 bel lt2) trodAll_mk0))), rfl, bel.frame _, fun h => by cases h⟩

theorem over : Rows.supersedeClonesRow.holds Try.pinned (OpenSpec.ofChange Rows.supersedeClonesSpec) :=
  OpenClaim.holds_of_wide 12 Try.f12 rfl rfl rfl rfl rfl rfl rfl ⟨rfl, rfl, rfl, rfl, rfl⟩ rfl rfl rfl rfl rfl (by kernel_rfl) Try.func12 (by kernel_rfl)
    (of_decide_eq_true (by kernel_rfl)) (by unfold Func.isWrapper; first | (rw [if_pos (by decide +kernel)]; kernel_rfl) | (rw [if_neg (by decide +kernel)]; exact ⟨rfl, rfl⟩))
    (fun os started H enc _ => lifted os started H enc)
end supersedeClones
/-- the statement -/
theorem supersedeClones_holds : Rows.SupersedeClonesSaid := supersedeClones.over
#print axioms supersedeClones_holds
end Go.Proofs.Ytmjmichghfepkaa
