/-
  BacklogNil returns true for every operation. No condition.
-/
import Derived.Test.YtoidpcmcbmioiaaRows
import Derived.Test.YtoidpcmcbmioiaaBklI
import Derived.Test.YtoidpcmcbmioiaaSized
import Derived.Test.YtoidpcmcbmioiaaFun
namespace Go.Proofs.Ytoidpcmcbmioiaa
open Go.Eng Go.RowKit

variable {K : Kn} {Hs : List Hl} {w : World} {p : Nat} {s : Bk}
theorem nilHas (a : Vec 32) (hs : Sat K w Hs) : Ret Try.prog 18 #[.pointer none, idV a.1] w fun r w' => r = .bool false ∧ Sat K w' Hs := by
  refine Ret.enter (n := 13) (args := [.pointer none, idV a.1]) Try.func18 rfl rfl ?_
  refine C.keep [(0, _), (1, _)] ⟨rfl, rfl, trivial⟩ ?_
  refine C.seq ?_
  refine C.region ?_
  refine R.sboxA hs rfl rfl ?_
  intro b3 w3 hs
  refine R.ev rfl (E.assign rfl) ?_
  refine R.done ?_
  refine X.keep [(0, _), (3, _)] ⟨rfl, rfl, trivial⟩ ?_
  refine X.next ?_
  refine C.seq ?_
  refine C.region ?_
  refine R.ev rfl (E.move rfl) ?_
  refine R.ev rfl (E.neNilF rfl rfl Try.underlying25) ?_
  refine R.ev rfl (E.move rfl) ?_
  refine R.gskip rfl rfl rfl ?_
  refine R.gskip rfl rfl rfl ?_
  refine R.gskip rfl rfl rfl ?_
  refine R.gskip rfl rfl rfl ?_
  refine R.ev rfl (E.pickF rfl rfl) ?_
  refine R.ev rfl (E.assign rfl) ?_
  refine R.done ?_
  refine X.keep [(4, _)] ⟨rfl, trivial⟩ ?_
  refine X.next ?_
  refine C.ret ?_
  refine X.ret1 rfl rfl ?_
  exact ⟨rfl, hs.to⟩
theorem nilAdd (a : Vec 32) (n : Int) (hs : Sat K w Hs) : Ret Try.prog 15 #[.pointer none, idV a.1, .int .i64 n] w fun r w' => r = .int .i64 1 ∧ Sat K w' Hs := by
  refine Ret.enter (n := 41) (args := [.pointer none, idV a.1, .int .i64 n]) Try.func15 rfl rfl ?_
  refine C.keep [(0, _), (1, _), (2, _)] ⟨rfl, rfl, rfl, trivial⟩ ?_
  refine C.seq ?_
  refine C.region ?_
  refine R.sboxA hs rfl rfl ?_
  intro b4 w4 hs
  refine R.ev rfl (E.assign rfl) ?_
  refine R.done ?_
  refine X.keep [(0, _), (2, _), (4, _)] ⟨rfl, rfl, rfl, trivial⟩ ?_
  refine X.next ?_
  refine C.seq ?_
  refine C.block ?_
  refine C.seq ?_
  refine C.region ?_
  refine R.ev rfl (E.move rfl) ?_
  refine R.ev rfl (E.eqlNilT rfl rfl Try.underlying25) ?_
  refine R.ev rfl (E.move rfl) ?_
  refine R.gskip rfl rfl rfl ?_
  refine R.gskip rfl rfl rfl ?_
  refine R.gskip rfl rfl rfl ?_
  refine R.ev rfl (E.pickT rfl rfl) ?_
  refine R.ev rfl (E.assign rfl) ?_
  refine R.done ?_
  refine X.keep [(0, _), (2, _), (4, _), (7, _)] ⟨rfl, rfl, rfl, rfl, trivial⟩ ?_
  refine X.next ?_
  refine C.ctrue rfl ?_
  refine C.seq ?_
  refine C.region ?_
  refine R.ev rfl (E.assign rfl) ?_
  refine R.done ?_
  refine X.keep [(6, _)] ⟨rfl, trivial⟩ ?_
  refine X.next ?_
  refine C.ret ?_
  refine X.blockRet ?_
  refine X.thenRet ?_
  refine X.ret1 rfl rfl ?_
  exact ⟨rfl, hs.to⟩
theorem nilOffered (a : Vec 32) (hs : Sat K w Hs) : Ret Try.prog 20 #[.pointer none, idV a.1] w fun r w' => r = .int .i64 1 ∧ Sat K w' Hs := by
  refine Ret.enter (n := 25) (args := [.pointer none, idV a.1]) Try.func20 rfl rfl ?_
  refine C.keep [(0, _), (1, _)] ⟨rfl, rfl, trivial⟩ ?_
  refine C.seq ?_
  refine C.region ?_
  refine R.sboxA hs rfl rfl ?_
  intro b3 w3 hs
  refine R.ev rfl (E.assign rfl) ?_
  refine R.done ?_
  refine X.keep [(0, _), (3, _)] ⟨rfl, rfl, trivial⟩ ?_
  refine X.next ?_
  refine C.seq ?_
  refine C.block ?_
  refine C.seq ?_
  refine C.region ?_
  refine R.ev rfl (E.move rfl) ?_
  refine R.ev rfl (E.eqlNilT rfl rfl Try.underlying25) ?_
  refine R.ev rfl (E.assign rfl) ?_
  refine R.done ?_
  refine X.keep [(0, _), (3, _), (5, _)] ⟨rfl, rfl, rfl, trivial⟩ ?_
  refine X.next ?_
  refine C.ctrue rfl ?_
  refine C.seq ?_
  refine C.region ?_
  refine R.ev rfl (E.assign rfl) ?_
  refine R.done ?_
  refine X.keep [(4, _)] ⟨rfl, trivial⟩ ?_
  refine X.next ?_
  refine C.ret ?_
  refine X.blockRet ?_
  refine X.thenRet ?_
  refine X.ret1 rfl rfl ?_
  exact ⟨rfl, hs.to⟩
theorem nilAnswered (a : Vec 32) (hs : Sat K w Hs) : Ret Try.prog 27 #[.pointer none, idV a.1] w fun r w' => r = .int .i64 1 ∧ Sat K w' Hs := by
  refine Ret.enter (n := 24) (args := [.pointer none, idV a.1]) Try.func27 rfl rfl ?_
  refine C.keep [(0, _), (1, _)] ⟨rfl, rfl, trivial⟩ ?_
  refine C.seq ?_
  refine C.region ?_
  refine R.sboxA hs rfl rfl ?_
  intro b3 w3 hs
  refine R.ev rfl (E.assign rfl) ?_
  refine R.done ?_
  refine X.keep [(0, _), (3, _)] ⟨rfl, rfl, trivial⟩ ?_
  refine X.next ?_
  refine C.seq ?_
  refine C.block ?_
  refine C.seq ?_
  refine C.region ?_
  refine R.ev rfl (E.move rfl) ?_
  refine R.ev rfl (E.eqlNilT rfl rfl Try.underlying25) ?_
  refine R.ev rfl (E.assign rfl) ?_
  refine R.done ?_
  refine X.keep [(0, _), (3, _), (5, _)] ⟨rfl, rfl, rfl, trivial⟩ ?_
  refine X.next ?_
  refine C.ctrue rfl ?_
  refine C.seq ?_
  refine C.region ?_
  refine R.ev rfl (E.assign rfl) ?_
  refine R.done ?_
  refine X.keep [(4, _)] ⟨rfl, trivial⟩ ?_
  refine X.next ?_
  refine C.ret ?_
  refine X.blockRet ?_
  refine X.thenRet ?_
  refine X.ret1 rfl rfl ?_
  exact ⟨rfl, hs.to⟩
theorem nilLater (a : Vec 32) (n : Int) (hs : Sat K w Hs) : Ret Try.prog 22 #[.pointer none, idV a.1, .int .i64 n] w fun r w' => r = .int .i64 1 ∧ Sat K w' Hs := by
  refine Ret.enter (n := 70) (args := [.pointer none, idV a.1, .int .i64 n]) Try.func22 rfl rfl ?_
  refine C.keep [(0, _), (1, _), (2, _)] ⟨rfl, rfl, rfl, trivial⟩ ?_
  refine C.seq ?_
  refine C.region ?_
  refine R.sboxA hs rfl rfl ?_
  intro b4 w4 hs
  refine R.ev rfl (E.assign rfl) ?_
  refine R.done ?_
  refine X.keep [(0, _), (2, _), (4, _)] ⟨rfl, rfl, rfl, trivial⟩ ?_
  refine X.next ?_
  refine C.seq ?_
  refine C.block ?_
  refine C.seq ?_
  refine C.region ?_
  refine R.ev rfl (E.move rfl) ?_
  refine R.ev rfl (E.eqlNilT rfl rfl Try.underlying25) ?_
  refine R.ev rfl (E.assign rfl) ?_
  refine R.done ?_
  refine X.keep [(0, _), (2, _), (4, _), (8, _)] ⟨rfl, rfl, rfl, rfl, trivial⟩ ?_
  refine X.next ?_
  refine C.ctrue rfl ?_
  refine C.seq ?_
  refine C.region ?_
  refine R.ev rfl (E.assign rfl) ?_
  refine R.done ?_
  refine X.keep [(6, _)] ⟨rfl, trivial⟩ ?_
  refine X.next ?_
  refine C.ret ?_
  refine X.blockRet ?_
  refine X.thenRet ?_
  refine X.ret1 rfl rfl ?_
  exact ⟨rfl, hs.to⟩
theorem nilNext (n m : Int) (hs : Sat K w Hs) : Ret Try.prog 24 #[.pointer none, .int .i64 n, .int .i64 m] w fun r w' => r = .slice none 0 0 ∧ Sat K w' Hs := by
  refine Ret.enter (n := 46) (args := [.pointer none, .int .i64 n, .int .i64 m]) Try.func24 rfl rfl ?_
  refine C.keep [(0, _), (1, _), (2, _)] ⟨rfl, rfl, rfl, trivial⟩ ?_
  refine C.seq ?_
  refine C.region ?_
  refine R.ev rfl (E.assign rfl) ?_
  refine R.done ?_
  refine X.keep [(0, _), (1, _), (2, _)] ⟨rfl, rfl, rfl, trivial⟩ ?_
  refine X.next ?_
  refine C.seq ?_
  refine C.seq ?_
  refine C.region ?_
  refine R.ev rfl (E.move rfl) ?_
  refine R.ev rfl (E.eqlNilT rfl rfl Try.underlying25) ?_
  refine R.done ?_
  refine X.keep [(0, _), (1, _), (2, _), (11, _)] ⟨rfl, rfl, rfl, rfl, trivial⟩ ?_
  refine X.next ?_
  refine C.ctrue rfl ?_
  refine C.seq ?_
  refine C.region ?_
  refine R.ev rfl (E.assign rfl) ?_
  refine R.done ?_
  refine X.keep [(6, _)] ⟨rfl, trivial⟩ ?_
  refine X.next ?_
  refine C.ret ?_
  refine X.thenRet ?_
  refine X.ret1 rfl rfl ?_
  exact ⟨rfl, hs.to⟩
theorem nilDrop (hs : Sat K w Hs) : Ret Try.prog 21 #[.pointer none] w fun r w' => r = .int .i64 0 ∧ Sat K w' Hs := by
  refine Ret.enter (n := 16) (args := [.pointer none]) Try.func21 rfl rfl ?_
  refine C.keep [(0, _)] ⟨rfl, trivial⟩ ?_
  refine C.seq ?_
  refine C.region ?_
  refine R.ev rfl (E.assign rfl) ?_
  refine R.done ?_
  refine X.keep [(0, _)] ⟨rfl, trivial⟩ ?_
  refine X.next ?_
  refine C.seq ?_
  refine C.seq ?_
  refine C.region ?_
  refine R.ev rfl (E.move rfl) ?_
  refine R.ev rfl (E.eqlNilT rfl rfl Try.underlying25) ?_
  refine R.done ?_
  refine X.keep [(0, _), (5, _)] ⟨rfl, rfl, trivial⟩ ?_
  refine X.next ?_
  refine C.ctrue rfl ?_
  refine C.seq ?_
  refine C.region ?_
  refine R.ev rfl (E.assign rfl) ?_
  refine R.done ?_
  refine X.keep [(2, _)] ⟨rfl, trivial⟩ ?_
  refine X.next ?_
  refine C.ret ?_
  refine X.thenRet ?_
  refine X.ret1 rfl rfl ?_
  exact ⟨rfl, hs.to⟩
theorem nilRemove (a : Vec 32) (hs : Sat K w Hs) : Ret Try.prog 19 #[.pointer none, idV a.1] w fun r w' => r = .bool false ∧ Sat K w' Hs := by
  refine Ret.enter (n := 29) (args := [.pointer none, idV a.1]) Try.func19 rfl rfl ?_
  refine C.keep [(0, _), (1, _)] ⟨rfl, rfl, trivial⟩ ?_
  refine C.seq ?_
  refine C.region ?_
  refine R.sboxA hs rfl rfl ?_
  intro b3 w3 hs
  refine R.ev rfl (E.assign rfl) ?_
  refine R.done ?_
  refine X.keep [(0, _), (3, _)] ⟨rfl, rfl, trivial⟩ ?_
  refine X.next ?_
  refine C.seq ?_
  refine C.seq ?_
  refine C.region ?_
  refine R.ev rfl (E.move rfl) ?_
  refine R.ev rfl (E.loadRowC rfl Try.underlying30 rfl Try.sz30 (by first | exact ⟨hs.ldA, by first | rfl | assumption | exact encV_len _ | exact Enc.len _ | exact len_ub (by assumption)⟩ | exact ⟨hs.ldP rfl, by first | rfl | assumption | exact encV_len _ | exact Enc.len _ | exact len_ub (by assumption)⟩ | exact ⟨hs.ldM rfl rfl, by first | rfl | assumption | exact encV_len _ | exact Enc.len _ | exact len_ub (by assumption)⟩ | exact ⟨hs.ldM (by assumption) (by first | rfl | assumption), by first | rfl | assumption | exact encV_len _ | exact Enc.len _ | exact len_ub (by assumption)⟩ | exact ⟨by assumption, by first | rfl | assumption | exact encV_len _ | exact Enc.len _ | exact len_ub (by assumption)⟩ | exact hs.ldp | exact At.partC (by assumption))) ?_
  refine R.call ⟨_, _, Try.func18, rfl, by kernel_rfl⟩ rfl rfl (nilHas a hs) ?_
  rintro _ w1 ⟨rfl, hs⟩
  refine R.ev rfl (E.notF rfl) ?_
  refine R.done ?_
  refine X.keep [(0, _), (3, _), (9, _)] ⟨rfl, rfl, rfl, trivial⟩ ?_
  refine X.next ?_
  refine C.ctrue rfl ?_
  refine C.seq ?_
  refine C.region ?_
  refine R.ev rfl (E.assign rfl) ?_
  refine R.done ?_
  refine X.keep [(4, _)] ⟨rfl, trivial⟩ ?_
  refine X.next ?_
  refine C.ret ?_
  refine X.thenRet ?_
  refine X.ret1 rfl rfl ?_
  exact ⟨rfl, hs.to⟩
theorem nilMissed (hs : Sat K w Hs) : Ret Try.prog 17 #[.pointer none] w fun r w' => r = .bool false ∧ Sat K w' Hs := by
  refine Ret.enter (n := 11) (args := [.pointer none]) Try.func17 rfl rfl ?_
  refine C.keep [(0, _)] ⟨rfl, trivial⟩ ?_
  refine C.seq ?_
  refine C.region ?_
  refine R.ev rfl (E.assign rfl) ?_
  refine R.done ?_
  refine X.keep [(0, _)] ⟨rfl, trivial⟩ ?_
  refine X.next ?_
  refine C.seq ?_
  refine C.region ?_
  refine R.ev rfl (E.move rfl) ?_
  refine R.ev rfl (E.neNilF rfl rfl Try.underlying25) ?_
  refine R.ev rfl (E.move rfl) ?_
  refine R.gskip rfl rfl rfl ?_
  refine R.gskip rfl rfl rfl ?_
  refine R.gskip rfl rfl rfl ?_
  refine R.gskip rfl rfl rfl ?_
  refine R.ev rfl (E.pickF rfl rfl) ?_
  refine R.ev rfl (E.assign rfl) ?_
  refine R.done ?_
  refine X.keep [(2, _)] ⟨rfl, trivial⟩ ?_
  refine X.next ?_
  refine C.ret ?_
  refine X.ret1 rfl rfl ?_
  exact ⟨rfl, hs.to⟩
theorem nilLen (hs : Sat K w Hs) : Ret Try.prog 16 #[.pointer none] w fun r w' => r = .int .i64 0 ∧ Sat K w' Hs := by
  refine Ret.enter (n := 10) (args := [.pointer none]) Try.func16 rfl rfl ?_
  refine C.keep [(0, _)] ⟨rfl, trivial⟩ ?_
  refine C.seq ?_
  refine C.region ?_
  refine R.ev rfl (E.assign rfl) ?_
  refine R.done ?_
  refine X.keep [(0, _)] ⟨rfl, trivial⟩ ?_
  refine X.next ?_
  refine C.seq ?_
  refine C.seq ?_
  refine C.region ?_
  refine R.ev rfl (E.move rfl) ?_
  refine R.ev rfl (E.eqlNilT rfl rfl Try.underlying25) ?_
  refine R.done ?_
  refine X.keep [(0, _), (4, _)] ⟨rfl, rfl, trivial⟩ ?_
  refine X.next ?_
  refine C.ctrue rfl ?_
  refine C.seq ?_
  refine C.region ?_
  refine R.ev rfl (E.assign rfl) ?_
  refine R.done ?_
  refine X.keep [(2, _)] ⟨rfl, trivial⟩ ?_
  refine X.next ?_
  refine C.ret ?_
  refine X.thenRet ?_
  refine X.ret1 rfl rfl ?_
  exact ⟨rfl, hs.to⟩
theorem nilOutstanding (hs : Sat K w Hs) : Ret Try.prog 34 #[.pointer none] w fun r w' => r = .slice none 0 0 ∧ Sat K w' Hs := by
  refine Ret.enter (n := 31) (args := [.pointer none]) Try.func34 rfl rfl ?_
  refine C.keep [(0, _)] ⟨rfl, trivial⟩ ?_
  refine C.seq ?_
  refine C.region ?_
  refine R.ev rfl (E.assign rfl) ?_
  refine R.done ?_
  refine X.keep [(0, _)] ⟨rfl, trivial⟩ ?_
  refine X.next ?_
  refine C.seq ?_
  refine C.seq ?_
  refine C.region ?_
  refine R.ev rfl (E.move rfl) ?_
  refine R.ev rfl (E.eqlNilT rfl rfl Try.underlying25) ?_
  refine R.done ?_
  refine X.keep [(0, _), (7, _)] ⟨rfl, rfl, trivial⟩ ?_
  refine X.next ?_
  refine C.ctrue rfl ?_
  refine C.seq ?_
  refine C.region ?_
  refine R.ev rfl (E.assign rfl) ?_
  refine R.done ?_
  refine X.keep [(2, _)] ⟨rfl, trivial⟩ ?_
  refine X.next ?_
  refine C.ret ?_
  refine X.thenRet ?_
  refine X.ret1 rfl rfl ?_
  exact ⟨rfl, hs.to⟩
theorem nilAll (hs : Sat K w Hs) : Ret Try.prog 33 #[.pointer none] w fun r w' => r = .slice none 0 0 ∧ Sat K w' Hs := by
  refine Ret.enter (n := 10) (args := [.pointer none]) Try.func33 rfl rfl ?_
  refine C.keep [(0, _)] ⟨rfl, trivial⟩ ?_
  refine C.seq ?_
  refine C.region ?_
  refine R.ev rfl (E.assign rfl) ?_
  refine R.done ?_
  refine X.keep [(0, _)] ⟨rfl, trivial⟩ ?_
  refine X.next ?_
  refine C.seq ?_
  refine C.seq ?_
  refine C.region ?_
  refine R.ev rfl (E.move rfl) ?_
  refine R.ev rfl (E.eqlNilT rfl rfl Try.underlying25) ?_
  refine R.done ?_
  refine X.keep [(0, _), (4, _)] ⟨rfl, rfl, trivial⟩ ?_
  refine X.next ?_
  refine C.ctrue rfl ?_
  refine C.seq ?_
  refine C.region ?_
  refine R.ev rfl (E.assign rfl) ?_
  refine R.done ?_
  refine X.keep [(2, _)] ⟨rfl, trivial⟩ ?_
  refine X.next ?_
  refine C.ret ?_
  refine X.thenRet ?_
  refine X.ret1 rfl rfl ?_
  exact ⟨rfl, hs.to⟩
theorem nilEncode (hs : Sat K w Hs) : Ret Try.prog 32 #[.pointer none] w fun r w' => r = .slice none 0 0 ∧ Sat K w' Hs := by
  refine Ret.enter (n := 62) (args := [.pointer none]) Try.func32 rfl rfl ?_
  refine C.keep [(0, _)] ⟨rfl, trivial⟩ ?_
  refine C.seq ?_
  refine C.region ?_
  refine R.ev rfl (E.assign rfl) ?_
  refine R.done ?_
  refine X.keep [(0, _)] ⟨rfl, trivial⟩ ?_
  refine X.next ?_
  refine C.seq ?_
  refine C.seq ?_
  refine C.region ?_
  refine R.ev rfl (E.move rfl) ?_
  refine R.ev rfl (E.eqlNilT rfl rfl Try.underlying25) ?_
  refine R.done ?_
  refine X.keep [(0, _), (8, _)] ⟨rfl, rfl, trivial⟩ ?_
  refine X.next ?_
  refine C.ctrue rfl ?_
  refine C.seq ?_
  refine C.region ?_
  refine R.ev rfl (E.assign rfl) ?_
  refine R.done ?_
  refine X.keep [(2, _)] ⟨rfl, trivial⟩ ?_
  refine X.next ?_
  refine C.ret ?_
  refine X.thenRet ?_
  refine X.ret1 rfl rfl ?_
  exact ⟨rfl, hs.to⟩
theorem nilClone (hs : Sat K w Hs) : Ret Try.prog 37 #[.pointer none] w fun r w' => r = .pointer none ∧ Sat K w' Hs := by
  refine Ret.enter (n := 24) (args := [.pointer none]) Try.func37 rfl rfl ?_
  refine C.keep [(0, _)] ⟨rfl, trivial⟩ ?_
  refine C.seq ?_
  refine C.region ?_
  refine R.ev rfl (E.assign rfl) ?_
  refine R.done ?_
  refine X.keep [(0, _)] ⟨rfl, trivial⟩ ?_
  refine X.next ?_
  refine C.seq ?_
  refine C.seq ?_
  refine C.region ?_
  refine R.ev rfl (E.move rfl) ?_
  refine R.ev rfl (E.eqlNilT rfl rfl Try.underlying25) ?_
  refine R.done ?_
  refine X.keep [(0, _), (5, _)] ⟨rfl, rfl, trivial⟩ ?_
  refine X.next ?_
  refine C.ctrue rfl ?_
  refine C.seq ?_
  refine C.region ?_
  refine R.ev rfl (E.assign rfl) ?_
  refine R.done ?_
  refine X.keep [(2, _)] ⟨rfl, trivial⟩ ?_
  refine X.next ?_
  refine C.ret ?_
  refine X.thenRet ?_
  refine X.ret1 rfl rfl ?_
  exact ⟨rfl, hs.to⟩
theorem nilEqual (hs : Sat K w Hs) : Ret Try.prog 39 #[.pointer none, .pointer none] w fun r w' => r = .bool true ∧ Sat K w' Hs := by
  refine Ret.enter (n := 70) (args := [.pointer none, .pointer none]) Try.func39 rfl rfl ?_
  refine C.keep [(0, _), (1, _)] ⟨rfl, rfl, trivial⟩ ?_
  refine C.seq ?_
  refine C.region ?_
  refine R.ev rfl (E.assign rfl) ?_
  refine R.done ?_
  refine X.keep [(0, _), (1, _)] ⟨rfl, rfl, trivial⟩ ?_
  refine X.next ?_
  refine C.seq ?_
  refine C.seq ?_
  refine C.region ?_
  refine R.ev rfl (E.move rfl) ?_
  refine R.ev rfl (E.eqlNilT rfl rfl Try.underlying25) ?_
  refine R.ev rfl (E.move rfl) ?_
  refine R.gskip rfl rfl rfl ?_
  refine R.gskip rfl rfl rfl ?_
  refine R.ev rfl (E.pickT rfl rfl) ?_
  refine R.done ?_
  refine X.keep [(0, _), (1, _), (10, _)] ⟨rfl, rfl, rfl, trivial⟩ ?_
  refine X.next ?_
  refine C.ctrue rfl ?_
  refine C.seq ?_
  refine C.region ?_
  refine R.ev rfl (E.move rfl) ?_
  refine R.ev rfl (E.eqlNilT rfl rfl Try.underlying25) ?_
  refine R.ev rfl (E.move rfl) ?_
  refine R.gyes rfl rfl ?_
  refine R.ev rfl (E.move rfl) ?_
  refine R.gyes rfl rfl ?_
  refine R.ev rfl (E.eqlNilT rfl rfl Try.underlying25) ?_
  refine R.ev rfl (E.pickT rfl rfl) ?_
  refine R.ev rfl (E.assign rfl) ?_
  refine R.done ?_
  refine X.keep [(4, _)] ⟨rfl, trivial⟩ ?_
  refine X.next ?_
  refine C.ret ?_
  refine X.thenRet ?_
  refine X.ret1 rfl rfl ?_
  exact ⟨rfl, hs.to⟩
theorem nilEqual2 (hs : Sat K w Hs) : Ret Try.prog 39 #[.pointer none, ptr p] w fun r w' => r = .bool false ∧ Sat K w' Hs := by
  refine Ret.enter (n := 70) (args := [.pointer none, ptr p]) Try.func39 rfl rfl ?_
  refine C.keep [(0, _), (1, _)] ⟨rfl, rfl, trivial⟩ ?_
  refine C.seq ?_
  refine C.region ?_
  refine R.ev rfl (E.assign rfl) ?_
  refine R.done ?_
  refine X.keep [(0, _), (1, _)] ⟨rfl, rfl, trivial⟩ ?_
  refine X.next ?_
  refine C.seq ?_
  refine C.seq ?_
  refine C.region ?_
  refine R.ev rfl (E.move rfl) ?_
  refine R.ev rfl (E.eqlNilT rfl rfl Try.underlying25) ?_
  refine R.ev rfl (E.move rfl) ?_
  refine R.gskip rfl rfl rfl ?_
  refine R.gskip rfl rfl rfl ?_
  refine R.ev rfl (E.pickT rfl rfl) ?_
  refine R.done ?_
  refine X.keep [(0, _), (1, _), (10, _)] ⟨rfl, rfl, rfl, trivial⟩ ?_
  refine X.next ?_
  refine C.ctrue rfl ?_
  refine C.seq ?_
  refine C.region ?_
  refine R.ev rfl (E.move rfl) ?_
  refine R.ev rfl (E.eqlNilT rfl rfl Try.underlying25) ?_
  refine R.ev rfl (E.move rfl) ?_
  refine R.gyes rfl rfl ?_
  refine R.ev rfl (E.move rfl) ?_
  refine R.gyes rfl rfl ?_
  refine R.ev rfl (E.eqlNilF rfl rfl Try.underlying25) ?_
  refine R.ev rfl (E.pickT rfl rfl) ?_
  refine R.ev rfl (E.assign rfl) ?_
  refine R.done ?_
  refine X.keep [(4, _)] ⟨rfl, trivial⟩ ?_
  refine X.next ?_
  refine C.ret ?_
  refine X.thenRet ?_
  refine X.ret1 rfl rfl ?_
  exact ⟨rfl, hs.to⟩
theorem nilEqual3 (hs : Sat K w Hs) : Ret Try.prog 39 #[ptr p, .pointer none] w fun r w' => r = .bool false ∧ Sat K w' Hs := by
  refine Ret.enter (n := 70) (args := [ptr p, .pointer none]) Try.func39 rfl rfl ?_
  refine C.keep [(0, _), (1, _)] ⟨rfl, rfl, trivial⟩ ?_
  refine C.seq ?_
  refine C.region ?_
  refine R.ev rfl (E.assign rfl) ?_
  refine R.done ?_
  refine X.keep [(0, _), (1, _)] ⟨rfl, rfl, trivial⟩ ?_
  refine X.next ?_
  refine C.seq ?_
  refine C.seq ?_
  refine C.region ?_
  refine R.ev rfl (E.move rfl) ?_
  refine R.ev rfl (E.eqlNilF rfl rfl Try.underlying25) ?_
  refine R.ev rfl (E.move rfl) ?_
  refine R.gyes rfl rfl ?_
  refine R.ev rfl (E.move rfl) ?_
  refine R.gyes rfl rfl ?_
  refine R.ev rfl (E.eqlNilT rfl rfl Try.underlying25) ?_
  refine R.ev rfl (E.pickF rfl rfl) ?_
  refine R.done ?_
  refine X.keep [(0, _), (1, _), (10, _)] ⟨rfl, rfl, rfl, trivial⟩ ?_
  refine X.next ?_
  refine C.ctrue rfl ?_
  refine C.seq ?_
  refine C.region ?_
  refine R.ev rfl (E.move rfl) ?_
  refine R.ev rfl (E.eqlNilF rfl rfl Try.underlying25) ?_
  refine R.ev rfl (E.move rfl) ?_
  refine R.gskip rfl rfl rfl ?_
  refine R.gskip rfl rfl rfl ?_
  refine R.ev rfl (E.pickF rfl rfl) ?_
  refine R.ev rfl (E.assign rfl) ?_
  refine R.done ?_
  refine X.keep [(4, _)] ⟨rfl, trivial⟩ ?_
  refine X.next ?_
  refine C.ret ?_
  refine X.thenRet ?_
  refine X.ret1 rfl rfl ?_
  exact ⟨rfl, hs.to⟩
theorem nilScan (f : Value) (n : Int) (hf : f.oneCell' = true) (hs : Sat K w Hs) : Ret Try.prog 25 #[.pointer none, f, .int .i64 n] w fun r w' => r = .tuple #[.int .i64 0, .bool false] ∧ Sat K w' Hs := by
  refine Ret.enter (n := 32) (args := [.pointer none, f, .int .i64 n]) Try.func25 rfl rfl ?_
  refine C.keep [(0, _), (1, _), (2, _)] ⟨rfl, rfl, rfl, trivial⟩ ?_
  refine C.seq ?_
  refine C.region ?_
  refine R.sbox1 hs rfl rfl rfl ?_
  intro b3 w3 hs
  refine R.sbox1 hs rfl rfl rfl ?_
  intro b5 w5 hs
  refine R.ev rfl (E.assign rfl) ?_
  refine R.ev rfl (E.assign rfl) ?_
  refine R.done ?_
  refine X.keep [(1, _), (3, _), (5, _)] ⟨rfl, rfl, rfl, trivial⟩ ?_
  refine X.next ?_
  refine C.seq ?_
  refine C.seq ?_
  refine C.region ?_
  refine R.ev rfl (E.load1 rfl Try.underlying25 rfl (by first | exact hs.ldc | exact hs.ld rfl | exact hs.ld (by assumption) | exact by assumption | exact At.cellC (by assumption))) ?_
  refine R.ev rfl (E.eqlNilT rfl rfl Try.underlying25) ?_
  refine R.ev rfl (E.move rfl) ?_
  refine R.gskip rfl rfl rfl ?_
  refine R.gskip rfl rfl rfl ?_
  refine R.ev rfl (E.pickT rfl rfl) ?_
  refine R.ev rfl (E.move rfl) ?_
  refine R.gskip rfl rfl rfl ?_
  refine R.gskip rfl rfl rfl ?_
  refine R.gskip rfl rfl rfl ?_
  refine R.ev rfl (E.pickT rfl rfl) ?_
  refine R.done ?_
  refine X.keep [(1, _), (3, _), (5, _), (21, _)] ⟨rfl, rfl, rfl, rfl, trivial⟩ ?_
  refine X.next ?_
  refine C.ctrue rfl ?_
  refine C.seq ?_
  refine C.region ?_
  refine R.ev rfl (E.assign rfl) ?_
  refine R.ev rfl (E.assign rfl) ?_
  refine R.done ?_
  refine X.keep [(6, _), (7, _)] ⟨rfl, rfl, trivial⟩ ?_
  refine X.next ?_
  refine C.ret ?_
  refine X.thenRet ?_
  refine X.ret2 rfl rfl rfl ?_
  exact ⟨rfl, hs.to⟩
theorem nilScan2 (n : Int) (hs : Sat K w Hs) : Ret Try.prog 25 #[ptr p, .nilFunc, .int .i64 n] w fun r w' => r = .tuple #[.int .i64 0, .bool false] ∧ Sat K w' Hs := by
  refine Ret.enter (n := 32) (args := [ptr p, .nilFunc, .int .i64 n]) Try.func25 rfl rfl ?_
  refine C.keep [(0, _), (1, _), (2, _)] ⟨rfl, rfl, rfl, trivial⟩ ?_
  refine C.seq ?_
  refine C.region ?_
  refine R.sbox1 hs rfl rfl rfl ?_
  intro b3 w3 hs
  refine R.sbox1 hs rfl rfl rfl ?_
  intro b5 w5 hs
  refine R.ev rfl (E.assign rfl) ?_
  refine R.ev rfl (E.assign rfl) ?_
  refine R.done ?_
  refine X.keep [(1, _), (3, _), (5, _)] ⟨rfl, rfl, rfl, trivial⟩ ?_
  refine X.next ?_
  refine C.seq ?_
  refine C.seq ?_
  refine C.region ?_
  refine R.ev rfl (E.load1 rfl Try.underlying25 rfl (by first | exact hs.ldc | exact hs.ld rfl | exact hs.ld (by assumption) | exact by assumption | exact At.cellC (by assumption))) ?_
  refine R.ev rfl (E.eqlNilF rfl rfl Try.underlying25) ?_
  refine R.ev rfl (E.move rfl) ?_
  refine R.gyes rfl rfl ?_
  refine R.ev rfl (E.move rfl) ?_
  refine R.gyes rfl rfl ?_
  refine R.ev rfl (E.nilFuncT rfl rfl Try.underlying46) ?_
  refine R.ev rfl (E.pickF rfl rfl) ?_
  refine R.ev rfl (E.move rfl) ?_
  refine R.gskip rfl rfl rfl ?_
  refine R.gskip rfl rfl rfl ?_
  refine R.gskip rfl rfl rfl ?_
  refine R.ev rfl (E.pickT rfl rfl) ?_
  refine R.done ?_
  refine X.keep [(1, _), (3, _), (5, _), (21, _)] ⟨rfl, rfl, rfl, rfl, trivial⟩ ?_
  refine X.next ?_
  refine C.ctrue rfl ?_
  refine C.seq ?_
  refine C.region ?_
  refine R.ev rfl (E.assign rfl) ?_
  refine R.ev rfl (E.assign rfl) ?_
  refine R.done ?_
  refine X.keep [(6, _), (7, _)] ⟨rfl, rfl, trivial⟩ ?_
  refine X.next ?_
  refine C.ret ?_
  refine X.thenRet ?_
  refine X.ret2 rfl rfl rfl ?_
  exact ⟨rfl, hs.to⟩
theorem own_any {v : Value} {L : List (Vec 32)} (hs : Sat K w Hs) [hr : KRow encV 32 K v L] (hL : L.length * 32 ≤ 140737488355328) : Ret Try.prog 41 #[v] w fun r w' => ∃ F', RowL 30 encV 32 r L F' ∧ Sat K w' (F' :: Hs) := by
  obtain ⟨ad, cap, rfl, _⟩ := hr.ex
  refine Ret.enter (n := 19) (args := [.slice ad L.length cap]) Try.func41 rfl rfl ?_
  refine C.keep [(0, _)] ⟨rfl, trivial⟩ ?_
  refine C.seq ?_
  refine C.region ?_
  refine R.ev rfl (E.assign rfl) ?_
  refine R.done ?_
  refine X.keep [(0, _)] ⟨rfl, trivial⟩ ?_
  refine X.next ?_
  refine C.seq ?_
  refine C.region ?_
  refine R.ev rfl (E.assign rfl) ?_
  refine R.done ?_
  refine X.keep [(0, _), (3, _)] ⟨rfl, rfl, trivial⟩ ?_
  refine X.next ?_
  refine C.seq ?_
  refine C.seq ?_
  refine C.region ?_
  refine R.ev rfl (E.assign rfl) ?_
  refine R.done ?_
  refine X.keep [(0, _), (3, _), (4, _)] ⟨rfl, rfl, rfl, trivial⟩ ?_
  refine X.next ?_
  refine C.block ?_
  refine C.loop (T := Nat × Value × Hl) [(0, _)] (fun (k, v, _) => [(3, v), (4, .int .i64 (k : Nat))]) (fun (k, v, F') w' => k ≤ L.length ∧ RowL 30 encV 32 v (L.take k) F' ∧ Sat K w' (F' :: Hs)) (fun (k, _) => L.length - k) ((0, .slice none 0 0, [])) ⟨rfl, rfl, rfl, trivial⟩ ⟨by omega, RowL.nilI, hs.nil⟩ ?_
  rintro ⟨k, v, F'⟩ w1 ⟨hk, r1, hs⟩
  have hlen : (L.take k).length = k := by simp; omega
  refine C.keep [(0, _), (3, _), (4, _)] ⟨rfl, rfl, rfl, trivial⟩ ?_
  refine C.seq ?_
  refine C.seq ?_
  refine C.region ?_
  refine R.ev rfl (E.move rfl) ?_
  refine R.ev rfl (E.move rfl) ?_
  refine R.ev rfl (E.lenSl rfl Try.underlying31) ?_
  refine R.ev rfl (E.lss rfl rfl) ?_
  refine R.done ?_
  refine X.keep [(0, _), (3, _), (4, _), (8, _)] ⟨rfl, rfl, rfl, rfl, trivial⟩ ?_
  refine X.next ?_
  refine C.cdec rfl (fun h8 => ?_) (fun h8 => ?_)
  · obtain ⟨y, bk_y, of_y, hy, my, ly, rfl, Ay⟩ := hs.el (i := k) (ad := ad) (n := L.length) (c := cap) (by omega)
    have ay := Ay _ hs
    have e2 := encV_len y
    refine C.skip ?_
    refine X.next ?_
    refine C.seq ?_
    refine C.block ?_
    refine C.region ?_
    refine R.ev rfl (E.move rfl) ?_
    refine R.ev rfl (E.move rfl) ?_
    refine R.ev rfl (E.move rfl) ?_
    refine R.ev rfl (E.indexAddr rfl rfl Try.underlying31 Try.sz29 rfl (by first | omega | decide)) ?_
    refine R.ev rfl (E.loadRowC rfl Try.underlying29 rfl Try.sz29 (by first | exact ⟨hs.ldA, by first | rfl | assumption | exact encV_len _ | exact Enc.len _ | exact len_ub (by assumption)⟩ | exact ⟨hs.ldP rfl, by first | rfl | assumption | exact encV_len _ | exact Enc.len _ | exact len_ub (by assumption)⟩ | exact ⟨hs.ldM rfl rfl, by first | rfl | assumption | exact encV_len _ | exact Enc.len _ | exact len_ub (by assumption)⟩ | exact ⟨hs.ldM (by assumption) (by first | rfl | assumption), by first | rfl | assumption | exact encV_len _ | exact Enc.len _ | exact len_ub (by assumption)⟩ | exact ⟨by assumption, by first | rfl | assumption | exact encV_len _ | exact Enc.len _ | exact len_ub (by assumption)⟩ | exact hs.ldp | exact At.partC (by assumption))) ?_
    refine R.buildSliceA rfl Try.underlying40 Try.sz30 Try.zr30 rfl (by first | rfl | assumption | exact encV_len _ | exact Enc.len _ | simp [*]) (by decide) (by decide) ?_
    intro b16 w16 n16
    have hs := hs.new n16
    refine R.capp1 (y) hs rfl rfl Try.underlying40 Try.by30 (by rfl) rfl (by first | exact hs.ldA | exact hs.ldP rfl | exact by assumption) (by decide) (by first | omega | (simp only [List.length_append, List.length_cons, List.length_nil] at *; omega)) (by first | omega | (simp only [List.length_append, List.length_cons, List.length_nil] at *; omega)) ?_
    intro v17 w17 F17 r17 hs
    refine R.ev rfl (E.assign rfl) ?_
    refine R.done ?_
    refine X.keep [(0, _), (3, _), (4, _)] ⟨rfl, rfl, rfl, trivial⟩ ?_
    refine X.blockNormal ?_
    refine X.next ?_
    refine C.region ?_
    refine R.ev rfl (E.move rfl) ?_
    refine R.ev rfl (E.add rfl rfl (by omega) (by omega)) ?_
    refine R.ev rfl (E.assign rfl) ?_
    refine R.done ?_
    refine X.keep [(0, _), (3, _), (4, _)] ⟨rfl, rfl, rfl, trivial⟩ ?_
    exact X.again (k + 1, v17, F17) ⟨rfl, rfl, rfl, trivial⟩ ⟨by omega, by rw [List.take_add_one, hy]; exact r17, hs.to⟩ (by show _ - _ < _ - _; omega)
  · refine C.exit ?_
    refine X.thenExit ?_
    refine X.loopExit ?_
    refine X.blockExit ?_
    refine X.next ?_
    refine C.seq ?_
    refine C.region ?_
    refine R.ev rfl (E.move rfl) ?_
    refine R.ev rfl (E.assign rfl) ?_
    refine R.done ?_
    refine X.keep [(2, _)] ⟨rfl, trivial⟩ ?_
    refine X.next ?_
    refine C.ret ?_
    refine X.ret1 rfl rfl ?_
    exact ⟨F', by rwa [show k = L.length by omega, List.take_length] at r1, hs⟩
theorem values_any (ad : Option Addr) (n c : Nat) (hs : Sat K w Hs) : Ret Try.prog 26 #[.slice ad n c] w fun r w' => ∃ b, r = .func (.func 52) #[] #[ptr b] ∧ Sat K w' (row b 40 [.slice ad n c] :: Hs) := by
  refine Ret.enter (n := 4) (args := [.slice ad n c]) Try.func26 rfl rfl ?_
  refine C.keep [(0, _)] ⟨rfl, trivial⟩ ?_
  refine C.seq ?_
  refine C.region ?_
  refine R.sbox1 hs rfl rfl rfl ?_
  intro b1 w1 hs
  refine R.ev rfl (E.assign rfl) ?_
  refine R.done ?_
  refine X.keep [(1, _)] ⟨rfl, trivial⟩ ?_
  refine X.next ?_
  refine C.seq ?_
  refine C.region ?_
  refine R.ev rfl (E.makeFunc rfl rfl) ?_
  refine R.ev rfl (E.assign rfl) ?_
  refine R.done ?_
  refine X.keep [(2, _)] ⟨rfl, trivial⟩ ?_
  refine X.next ?_
  refine C.ret ?_
  refine X.ret1 rfl rfl ?_
  exact ⟨b1, rfl, hs⟩
theorem argv_op {w : World} {v : Value} (h : ArgV Try.prog w 33 v) (z : ArgZ Try.prog 33 v) : ∃ o, v = .agg (encP o).toArray ∧ OpOk (Kn.of w) o ∧ o.n * 32 ≤ 140737488355328 := by
  obtain ⟨m, cs, hf, rfl⟩ := argv_struct h Try.underlying33
  have hl : cs.length = 36 := by
    obtain ⟨_, hl, _⟩ := fit_struct hf Try.underlying33
    rw [hl]; kernel_rfl
  obtain ⟨o, rfl, hok⟩ := fit_op m cs hl hf
  refine ⟨o, rfl, hok, ?_⟩
  obtain ⟨k, hz⟩ := z
  obtain ⟨k', hz'⟩ := fitZ_struct hz Try.underlying33
  have f4 : FitZ Try.prog k' 31 (((encP o).drop 35).take (Try.prog.cellsOf 31)) := hz' 4 _ rfl
  have c2 : Try.prog.cellsOf 31 = 1 := by kernel_rfl
  have c3 : Try.prog.bytesOf 29 = 32 := by kernel_rfl
  have e4 : ((encP o).drop 35).take 1 = [o.sl] := by
    rw [encP, show 35 = 1 + (o.id.1.map ub).length + 2 by simp [o.id.2], ← List.drop_drop, ← List.drop_drop]; simp
  rw [c2, e4] at f4
  cases had : o.ad with
  | none =>
    obtain ⟨ad, cap, h1, h2, h3⟩ := hok.1.ex
    have h4 := hok.2
    have hnn : o.ids = [] := by
      unfold Op38.sl at h1
      rw [had] at h1
      simp only [Value.slice.injEq] at h1
      obtain ⟨rfl, _, _⟩ := h1
      cases hids : o.ids with
      | nil => rfl
      | cons a l => obtain ⟨b, off, h5, _⟩ := h2.at_ (by rw [hids]; simp); cases h5
    rw [hnn] at h4; simp at h4; omega
  | some a =>
    unfold Op38.sl at f4
    rw [had] at f4
    have := fitZ_slice f4 Try.underlying31
    rw [c3] at this
    unfold reachBytes at this
    omega
theorem nil_walk (w : World) (v0 : Value) (a0 : ArgV Try.prog w 33 v0) (z0 : ArgZ Try.prog 33 v0) : Ret Try.prog 10 #[v0] w fun r w' => r = .bool true ∧ Mod [] w w' := by
  obtain ⟨o, rfl, ⟨hids, hn⟩, hb⟩ := argv_op a0 z0
  have e1 := encV_len o.id
  have hs := Sat.start w
  refine Ret.enter (n := 152) (args := [.agg (encP o).toArray]) Try.func10 rfl rfl ?_
  refine C.keep [(0, _)] ⟨rfl, trivial⟩ ?_
  refine C.seq ?_
  refine C.region ?_
  refine R.sboxA hs rfl rfl ?_
  intro b1 w1 hs
  refine R.ev rfl (E.assign rfl) ?_
  refine R.done ?_
  refine X.keep [(1, _)] ⟨rfl, trivial⟩ ?_
  refine X.next ?_
  refine C.seq ?_
  refine C.seq ?_
  refine C.region ?_
  refine R.call ⟨_, _, Try.func12, rfl, by kernel_rfl⟩ rfl rfl (known_any hs) ?_
  rintro _ w1 ⟨rfl, hs⟩
  refine R.ev rfl (E.notT rfl) ?_
  refine R.done ?_
  refine X.keep [(1, _), (12, _)] ⟨rfl, rfl, trivial⟩ ?_
  refine X.next ?_
  refine C.cfalse rfl ?_
  refine C.skip ?_
  refine X.next ?_
  refine C.seq ?_
  refine C.region ?_
  refine R.ev rfl (E.assign rfl) ?_
  refine R.done ?_
  refine X.keep [(1, _), (3, _)] ⟨rfl, rfl, trivial⟩ ?_
  refine X.next ?_
  refine C.seq ?_
  refine C.region ?_
  first | refine R.ev rfl (E.fieldAddr0 1 rfl Try.underlying33 rfl Try.sz29 rfl) ?_ | refine R.ev rfl (E.fieldAddrN 1 rfl Try.underlying33 rfl Try.sz29 rfl) ?_
  refine R.ev rfl (E.loadRowC rfl Try.underlying29 rfl Try.sz29 (by first | exact ⟨hs.ldA, by first | rfl | assumption | exact encV_len _ | exact Enc.len _ | exact len_ub (by assumption)⟩ | exact ⟨hs.ldP rfl, by first | rfl | assumption | exact encV_len _ | exact Enc.len _ | exact len_ub (by assumption)⟩ | exact ⟨hs.ldM rfl rfl, by first | rfl | assumption | exact encV_len _ | exact Enc.len _ | exact len_ub (by assumption)⟩ | exact ⟨hs.ldM (by assumption) (by first | rfl | assumption), by first | rfl | assumption | exact encV_len _ | exact Enc.len _ | exact len_ub (by assumption)⟩ | exact ⟨by assumption, by first | rfl | assumption | exact encV_len _ | exact Enc.len _ | exact len_ub (by assumption)⟩ | exact hs.ldp | exact At.partC (by assumption))) ?_
  refine R.sallocA hs Try.zr30 rfl ?_
  intro b4 w4 hs
  first | refine R.cstoreAll hs rfl rfl Try.sz30 (by first | rfl | assumption | exact encV_len _ | exact Enc.len _ | exact len_ub (by assumption) | simp [*]) (by first | rfl | assumption | exact encV_len _ | exact Enc.len _ | exact len_ub (by assumption) | simp [*]) (by first | assumption | exact OneL.all | exact Enc.one _ | exact ub_all _ | (repeat' (first | refine List.forall_mem_cons.2 ⟨?_, ?_⟩ | exact List.forall_mem_nil _ | rfl | exact OneC.one | exact KRow.oneC' (by assumption)))) ?_ | refine R.cstore hs rfl rfl Try.sz30 (by first | rfl | assumption | exact encV_len _ | exact Enc.len _ | exact len_ub (by assumption) | simp [*]) (by simp [*]) (by first | assumption | exact OneL.all | exact Enc.one _ | exact ub_all _ | (repeat' (first | refine List.forall_mem_cons.2 ⟨?_, ?_⟩ | exact List.forall_mem_nil _ | rfl | exact OneC.one | exact KRow.oneC' (by assumption)))) ?_
  intro w4_3 hs
  try simp only [List.set_cons_zero, List.set_cons_succ] at hs
  refine R.done ?_
  refine X.keep [(1, _), (3, _), (4, _)] ⟨rfl, rfl, rfl, trivial⟩ ?_
  refine X.next ?_
  refine C.seq ?_
  refine C.drawn (SatS hs) ([2, 6], [0, 1, 5, 8, 9, 10, 11, 12]) (by kernel_rfl) ?_
  have hs := hs.drew
  refine D.evP 0 rfl (by kernel_rfl) rfl (fun _ => hs.to) (fun _ => E.move rfl) ?_
  first | refine D.evP 1 rfl (by kernel_rfl) rfl (fun _ => hs.to) (fun _ => E.fieldAddr0 35 rfl Try.underlying33 rfl Try.sz31 rfl) ?_ | refine D.evP 1 rfl (by kernel_rfl) rfl (fun _ => hs.to) (fun _ => E.fieldAddrN 35 rfl Try.underlying33 rfl Try.sz31 rfl) ?_
  first | refine D.evP 5 rfl (by kernel_rfl) rfl (fun _ => hs.to) (fun _ => E.fieldAddr0 33 rfl Try.underlying33 rfl Try.sz3 rfl) ?_ | refine D.evP 5 rfl (by kernel_rfl) rfl (fun _ => hs.to) (fun _ => E.fieldAddrN 33 rfl Try.underlying33 rfl Try.sz3 rfl) ?_
  refine D.ev 2 rfl (by kernel_rfl) rfl hs.to (fun _ hS => E.load1 rfl Try.underlying31 rfl (by first | exact hS.ldc | exact hS.ld rfl | exact hS.ld (by assumption) | exact by assumption | exact At.cellC (by assumption) | exact At.cellC ((by assumption : ∀ w', Sat _ w' _ → At w' _ _ _) _ hS) | exact (by assumption : ∀ w', Sat _ w' _ → World.cell? w' _ = some _) _ hS)) ?_
  refine D.ev 6 rfl (by kernel_rfl) rfl hs.to (fun _ hS => E.load1 rfl Try.underlying3 rfl (by first | exact hS.ldc | exact hS.ld rfl | exact hS.ld (by assumption) | exact by assumption | exact At.cellC (by assumption) | exact At.cellC ((by assumption : ∀ w', Sat _ w' _ → At w' _ _ _) _ hS) | exact (by assumption : ∀ w', Sat _ w' _ → World.cell? w' _ = some _) _ hS)) ?_
  refine D.act 3 rfl (by kernel_rfl) ?_
  refine R.call ⟨_, _, Try.func41, rfl, by kernel_rfl⟩ rfl rfl (own_any (L := o.ids) hs (by omega)) ?_
  rintro v19 w19 ⟨F19, r19, hs⟩
  obtain ⟨ad19, cap19, rfl, _⟩ := r19.val
  refine D.back hs.to ?_
  refine D.act 4 rfl (by kernel_rfl) ?_
  refine R.call ⟨_, _, Try.func26, rfl, by kernel_rfl⟩ rfl rfl (values_any _ _ _ hs) ?_
  rintro _ w20 ⟨b20, rfl, hs⟩
  refine D.back hs.to ?_
  refine D.act 7 rfl (by kernel_rfl) ?_
  refine R.call ⟨_, _, Try.func25, rfl, by kernel_rfl⟩ rfl rfl (nilScan _ o.now rfl hs) ?_
  rintro _ w23 ⟨rfl, hs⟩
  refine D.backT (by kernel_rfl) ?_
  refine D.evP 8 rfl (by kernel_rfl) rfl (np (by kernel_rfl)) (fun _ => E.move rfl) ?_
  refine D.evP 9 rfl (by kernel_rfl) rfl (np (by kernel_rfl)) (fun _ => E.extract rfl rfl) ?_
  refine D.evP 10 rfl (by kernel_rfl) rfl (np (by kernel_rfl)) (fun _ => E.extract rfl rfl) ?_
  refine D.evP 11 rfl (by kernel_rfl) rfl (np (by kernel_rfl)) (fun _ => E.assign rfl) ?_
  refine D.evP 12 rfl (by kernel_rfl) rfl (np (by kernel_rfl)) (fun _ => E.assign rfl) ?_
  refine D.done rfl (by kernel_rfl) ?_
  refine X.keep [(1, _), (3, _), (4, _), (5, _), (6, _)] ⟨rfl, rfl, rfl, rfl, rfl, trivial⟩ ?_
  refine X.next ?_
  refine C.seq ?_
  refine C.region ?_
  refine R.call ⟨_, _, Try.func14, rfl, by kernel_rfl⟩ rfl rfl (new_any 3 3 hs) ?_
  rintro _ w5 (⟨h, _⟩ | ⟨_, p, F, rfl, hw, hs⟩)
  · exact absurd h (by decide)
  refine R.ev rfl (E.move rfl) ?_
  refine R.ev rfl (E.extract rfl rfl) ?_
  refine R.ev rfl (E.extract rfl rfl) ?_
  refine R.ev rfl (E.assign rfl) ?_
  refine R.ev rfl (E.assign rfl) ?_
  refine R.done ?_
  refine X.keep [(1, _), (3, _), (4, _), (5, _), (6, _), (7, _), (8, _)] ⟨rfl, rfl, rfl, rfl, rfl, rfl, rfl, trivial⟩ ?_
  refine X.next ?_
  refine C.seq ?_
  refine C.region ?_
  refine R.ev rfl (E.move rfl) ?_
  refine R.call ⟨_, _, Try.func25, rfl, by kernel_rfl⟩ rfl rfl (nilScan2 5 hs) ?_
  rintro _ w71 ⟨rfl, hs⟩
  refine R.ev rfl (E.move rfl) ?_
  refine R.ev rfl (E.extract rfl rfl) ?_
  refine R.ev rfl (E.extract rfl rfl) ?_
  refine R.ev rfl (E.assign rfl) ?_
  refine R.ev rfl (E.assign rfl) ?_
  refine R.done ?_
  refine X.keep [(1, _), (3, _), (4, _), (5, _), (6, _), (7, _), (8, _), (9, _), (10, _)] ⟨rfl, rfl, rfl, rfl, rfl, rfl, rfl, rfl, rfl, trivial⟩ ?_
  refine X.next ?_
  refine C.seq ?_
  refine C.seq ?_
  refine C.region ?_
  refine R.ev rfl (E.move rfl) ?_
  refine R.ev rfl ((E.neq rfl rfl).isF (by decide)) ?_
  refine R.ev rfl (E.move rfl) ?_
  refine R.gyes rfl rfl ?_
  refine R.ev rfl (E.move rfl) ?_
  refine R.ev rfl (E.pickF rfl rfl) ?_
  refine R.ev rfl (E.move rfl) ?_
  refine R.gyes rfl rfl ?_
  refine R.ev rfl (E.move rfl) ?_
  refine R.gyes rfl rfl ?_
  refine R.ev rfl ((E.neq rfl rfl).isF (by decide)) ?_
  refine R.ev rfl (E.pickF rfl rfl) ?_
  refine R.ev rfl (E.move rfl) ?_
  refine R.gyes rfl rfl ?_
  refine R.ev rfl (E.move rfl) ?_
  refine R.gyes rfl rfl ?_
  refine R.ev rfl ((E.neq rfl rfl).isF (by decide)) ?_
  refine R.ev rfl (E.pickF rfl rfl) ?_
  refine R.ev rfl (E.move rfl) ?_
  refine R.gyes rfl rfl ?_
  refine R.ev rfl (E.move rfl) ?_
  refine R.ev rfl (E.pickF rfl rfl) ?_
  refine R.done ?_
  refine X.keep [(1, _), (3, _), (4, _), (7, _), (50, _)] ⟨rfl, rfl, rfl, rfl, rfl, trivial⟩ ?_
  refine X.next ?_
  refine C.cfalse rfl ?_
  refine C.skip ?_
  refine X.next ?_
  refine C.seq ?_
  refine C.region ?_
  refine R.ev rfl (E.move rfl) ?_
  refine R.ev rfl (E.loadRowC rfl Try.underlying30 rfl Try.sz30 (by first | exact ⟨hs.ldA, by first | rfl | assumption | exact encV_len _ | exact Enc.len _ | exact len_ub (by assumption)⟩ | exact ⟨hs.ldP rfl, by first | rfl | assumption | exact encV_len _ | exact Enc.len _ | exact len_ub (by assumption)⟩ | exact ⟨hs.ldM rfl rfl, by first | rfl | assumption | exact encV_len _ | exact Enc.len _ | exact len_ub (by assumption)⟩ | exact ⟨hs.ldM (by assumption) (by first | rfl | assumption), by first | rfl | assumption | exact encV_len _ | exact Enc.len _ | exact len_ub (by assumption)⟩ | exact ⟨by assumption, by first | rfl | assumption | exact encV_len _ | exact Enc.len _ | exact len_ub (by assumption)⟩ | exact hs.ldp | exact At.partC (by assumption))) ?_
  first | refine R.ev rfl (E.fieldAddr0 33 rfl Try.underlying33 rfl Try.sz3 rfl) ?_ | refine R.ev rfl (E.fieldAddrN 33 rfl Try.underlying33 rfl Try.sz3 rfl) ?_
  refine R.ev rfl (E.load1 rfl Try.underlying3 rfl (by first | exact hs.ldc | exact hs.ld rfl | exact hs.ld (by assumption) | exact by assumption | exact At.cellC (by assumption))) ?_
  refine R.call ⟨_, _, Try.func15, rfl, by kernel_rfl⟩ rfl rfl (nilAdd o.id o.now hs) ?_
  rintro _ w104 ⟨rfl, hs⟩
  refine R.ev rfl ((E.eql rfl rfl).isT (by decide)) ?_
  refine R.ev rfl (E.move rfl) ?_
  refine R.gyes rfl rfl ?_
  refine R.ev rfl (E.move rfl) ?_
  refine R.gyes rfl rfl ?_
  refine R.ev rfl (E.loadRowC rfl Try.underlying30 rfl Try.sz30 (by first | exact ⟨hs.ldA, by first | rfl | assumption | exact encV_len _ | exact Enc.len _ | exact len_ub (by assumption)⟩ | exact ⟨hs.ldP rfl, by first | rfl | assumption | exact encV_len _ | exact Enc.len _ | exact len_ub (by assumption)⟩ | exact ⟨hs.ldM rfl rfl, by first | rfl | assumption | exact encV_len _ | exact Enc.len _ | exact len_ub (by assumption)⟩ | exact ⟨hs.ldM (by assumption) (by first | rfl | assumption), by first | rfl | assumption | exact encV_len _ | exact Enc.len _ | exact len_ub (by assumption)⟩ | exact ⟨by assumption, by first | rfl | assumption | exact encV_len _ | exact Enc.len _ | exact len_ub (by assumption)⟩ | exact hs.ldp | exact At.partC (by assumption))) ?_
  refine R.gyes rfl rfl ?_
  refine R.call ⟨_, _, Try.func20, rfl, by kernel_rfl⟩ rfl rfl (nilOffered o.id hs) ?_
  rintro _ w109 ⟨rfl, hs⟩
  refine R.gyes rfl rfl ?_
  refine R.ev rfl ((E.eql rfl rfl).isT (by decide)) ?_
  refine R.ev rfl (E.pickT rfl rfl) ?_
  refine R.ev rfl (E.move rfl) ?_
  refine R.gyes rfl rfl ?_
  refine R.ev rfl (E.move rfl) ?_
  refine R.gyes rfl rfl ?_
  refine R.ev rfl (E.loadRowC rfl Try.underlying30 rfl Try.sz30 (by first | exact ⟨hs.ldA, by first | rfl | assumption | exact encV_len _ | exact Enc.len _ | exact len_ub (by assumption)⟩ | exact ⟨hs.ldP rfl, by first | rfl | assumption | exact encV_len _ | exact Enc.len _ | exact len_ub (by assumption)⟩ | exact ⟨hs.ldM rfl rfl, by first | rfl | assumption | exact encV_len _ | exact Enc.len _ | exact len_ub (by assumption)⟩ | exact ⟨hs.ldM (by assumption) (by first | rfl | assumption), by first | rfl | assumption | exact encV_len _ | exact Enc.len _ | exact len_ub (by assumption)⟩ | exact ⟨by assumption, by first | rfl | assumption | exact encV_len _ | exact Enc.len _ | exact len_ub (by assumption)⟩ | exact hs.ldp | exact At.partC (by assumption))) ?_
  refine R.gyes rfl rfl ?_
  refine R.call ⟨_, _, Try.func27, rfl, by kernel_rfl⟩ rfl rfl (nilAnswered o.id hs) ?_
  rintro _ w1015 ⟨rfl, hs⟩
  refine R.gyes rfl rfl ?_
  refine R.ev rfl ((E.eql rfl rfl).isT (by decide)) ?_
  refine R.ev rfl (E.pickT rfl rfl) ?_
  refine R.ev rfl (E.move rfl) ?_
  refine R.gyes rfl rfl ?_
  refine R.ev rfl (E.move rfl) ?_
  refine R.gyes rfl rfl ?_
  refine R.ev rfl (E.loadRowC rfl Try.underlying30 rfl Try.sz30 (by first | exact ⟨hs.ldA, by first | rfl | assumption | exact encV_len _ | exact Enc.len _ | exact len_ub (by assumption)⟩ | exact ⟨hs.ldP rfl, by first | rfl | assumption | exact encV_len _ | exact Enc.len _ | exact len_ub (by assumption)⟩ | exact ⟨hs.ldM rfl rfl, by first | rfl | assumption | exact encV_len _ | exact Enc.len _ | exact len_ub (by assumption)⟩ | exact ⟨hs.ldM (by assumption) (by first | rfl | assumption), by first | rfl | assumption | exact encV_len _ | exact Enc.len _ | exact len_ub (by assumption)⟩ | exact ⟨by assumption, by first | rfl | assumption | exact encV_len _ | exact Enc.len _ | exact len_ub (by assumption)⟩ | exact hs.ldp | exact At.partC (by assumption))) ?_
  refine R.gyes rfl rfl ?_
  first | refine R.ev rfl (E.fieldAddr0 33 rfl Try.underlying33 rfl Try.sz3 rfl) ?_ | refine R.ev rfl (E.fieldAddrN 33 rfl Try.underlying33 rfl Try.sz3 rfl) ?_
  refine R.gyes rfl rfl ?_
  refine R.ev rfl (E.load1 rfl Try.underlying3 rfl (by first | exact hs.ldc | exact hs.ld rfl | exact hs.ld (by assumption) | exact by assumption | exact At.cellC (by assumption))) ?_
  refine R.gyes rfl rfl ?_
  refine R.call ⟨_, _, Try.func22, rfl, by kernel_rfl⟩ rfl rfl (nilLater o.id o.now hs) ?_
  rintro _ w1023 ⟨rfl, hs⟩
  refine R.gyes rfl rfl ?_
  refine R.ev rfl ((E.eql rfl rfl).isT (by decide)) ?_
  refine R.ev rfl (E.pickT rfl rfl) ?_
  refine R.ev rfl (E.move rfl) ?_
  refine R.gyes rfl rfl ?_
  refine R.ev rfl (E.move rfl) ?_
  refine R.gyes rfl rfl ?_
  first | refine R.ev rfl (E.fieldAddr0 33 rfl Try.underlying33 rfl Try.sz3 rfl) ?_ | refine R.ev rfl (E.fieldAddrN 33 rfl Try.underlying33 rfl Try.sz3 rfl) ?_
  refine R.gyes rfl rfl ?_
  refine R.ev rfl (E.load1 rfl Try.underlying3 rfl (by first | exact hs.ldc | exact hs.ld rfl | exact hs.ld (by assumption) | exact by assumption | exact At.cellC (by assumption))) ?_
  refine R.gyes rfl rfl ?_
  first | refine R.ev rfl (E.fieldAddr0 34 rfl Try.underlying33 rfl Try.sz3 rfl) ?_ | refine R.ev rfl (E.fieldAddrN 34 rfl Try.underlying33 rfl Try.sz3 rfl) ?_
  refine R.gyes rfl rfl ?_
  refine R.ev rfl (E.load1 rfl Try.underlying3 rfl (by first | exact hs.ldc | exact hs.ld rfl | exact hs.ld (by assumption) | exact by assumption | exact At.cellC (by assumption))) ?_
  refine R.gyes rfl rfl ?_
  refine R.call ⟨_, _, Try.func24, rfl, by kernel_rfl⟩ rfl rfl (nilNext o.now o.most hs) ?_
  rintro _ w1032 ⟨rfl, hs⟩
  refine R.gyes rfl rfl ?_
  refine R.ev rfl (E.lenSl rfl Try.underlying40) ?_
  refine R.gyes rfl rfl ?_
  refine R.ev rfl ((E.eql rfl rfl).isT (by decide)) ?_
  refine R.ev rfl (E.pickT rfl rfl) ?_
  refine R.ev rfl (E.move rfl) ?_
  refine R.gyes rfl rfl ?_
  refine R.ev rfl (E.move rfl) ?_
  refine R.gyes rfl rfl ?_
  refine R.call ⟨_, _, Try.func21, rfl, by kernel_rfl⟩ rfl rfl (nilDrop hs) ?_
  rintro _ w1038 ⟨rfl, hs⟩
  refine R.gyes rfl rfl ?_
  refine R.ev rfl ((E.eql rfl rfl).isT (by decide)) ?_
  refine R.ev rfl (E.pickT rfl rfl) ?_
  refine R.ev rfl (E.move rfl) ?_
  refine R.gyes rfl rfl ?_
  refine R.ev rfl (E.move rfl) ?_
  refine R.gyes rfl rfl ?_
  refine R.ev rfl (E.loadRowC rfl Try.underlying30 rfl Try.sz30 (by first | exact ⟨hs.ldA, by first | rfl | assumption | exact encV_len _ | exact Enc.len _ | exact len_ub (by assumption)⟩ | exact ⟨hs.ldP rfl, by first | rfl | assumption | exact encV_len _ | exact Enc.len _ | exact len_ub (by assumption)⟩ | exact ⟨hs.ldM rfl rfl, by first | rfl | assumption | exact encV_len _ | exact Enc.len _ | exact len_ub (by assumption)⟩ | exact ⟨hs.ldM (by assumption) (by first | rfl | assumption), by first | rfl | assumption | exact encV_len _ | exact Enc.len _ | exact len_ub (by assumption)⟩ | exact ⟨by assumption, by first | rfl | assumption | exact encV_len _ | exact Enc.len _ | exact len_ub (by assumption)⟩ | exact hs.ldp | exact At.partC (by assumption))) ?_
  refine R.gyes rfl rfl ?_
  refine R.call ⟨_, _, Try.func19, rfl, by kernel_rfl⟩ rfl rfl (nilRemove o.id hs) ?_
  rintro _ w1044 ⟨rfl, hs⟩
  refine R.gyes rfl rfl ?_
  refine R.ev rfl (E.notF rfl) ?_
  refine R.ev rfl (E.pickT rfl rfl) ?_
  refine R.ev rfl (E.move rfl) ?_
  refine R.gyes rfl rfl ?_
  refine R.ev rfl (E.move rfl) ?_
  refine R.gyes rfl rfl ?_
  refine R.call ⟨_, _, Try.func17, rfl, by kernel_rfl⟩ rfl rfl (nilMissed hs) ?_
  rintro _ w1049 ⟨rfl, hs⟩
  refine R.gyes rfl rfl ?_
  refine R.ev rfl (E.notF rfl) ?_
  refine R.ev rfl (E.pickT rfl rfl) ?_
  refine R.ev rfl (E.move rfl) ?_
  refine R.gyes rfl rfl ?_
  refine R.ev rfl (E.move rfl) ?_
  refine R.gyes rfl rfl ?_
  refine R.call ⟨_, _, Try.func16, rfl, by kernel_rfl⟩ rfl rfl (nilLen hs) ?_
  rintro _ w1054 ⟨rfl, hs⟩
  refine R.gyes rfl rfl ?_
  refine R.ev rfl ((E.eql rfl rfl).isT (by decide)) ?_
  refine R.ev rfl (E.pickT rfl rfl) ?_
  refine R.ev rfl (E.move rfl) ?_
  refine R.gyes rfl rfl ?_
  refine R.ev rfl (E.move rfl) ?_
  refine R.gyes rfl rfl ?_
  refine R.call ⟨_, _, Try.func34, rfl, by kernel_rfl⟩ rfl rfl (nilOutstanding hs) ?_
  rintro _ w1059 ⟨rfl, hs⟩
  refine R.gyes rfl rfl ?_
  refine R.ev rfl (E.lenSl rfl Try.underlying40) ?_
  refine R.gyes rfl rfl ?_
  refine R.ev rfl ((E.eql rfl rfl).isT (by decide)) ?_
  refine R.ev rfl (E.pickT rfl rfl) ?_
  refine R.ev rfl (E.move rfl) ?_
  refine R.gyes rfl rfl ?_
  refine R.ev rfl (E.move rfl) ?_
  refine R.gyes rfl rfl ?_
  refine R.call ⟨_, _, Try.func33, rfl, by kernel_rfl⟩ rfl rfl (nilAll hs) ?_
  rintro _ w1065 ⟨rfl, hs⟩
  refine R.gyes rfl rfl ?_
  refine R.ev rfl (E.lenSl rfl Try.underlying63) ?_
  refine R.gyes rfl rfl ?_
  refine R.ev rfl ((E.eql rfl rfl).isT (by decide)) ?_
  refine R.ev rfl (E.pickT rfl rfl) ?_
  refine R.ev rfl (E.move rfl) ?_
  refine R.gyes rfl rfl ?_
  refine R.ev rfl (E.move rfl) ?_
  refine R.gyes rfl rfl ?_
  refine R.ev rfl (E.loadRowC rfl Try.underlying30 rfl Try.sz30 (by first | exact ⟨hs.ldA, by first | rfl | assumption | exact encV_len _ | exact Enc.len _ | exact len_ub (by assumption)⟩ | exact ⟨hs.ldP rfl, by first | rfl | assumption | exact encV_len _ | exact Enc.len _ | exact len_ub (by assumption)⟩ | exact ⟨hs.ldM rfl rfl, by first | rfl | assumption | exact encV_len _ | exact Enc.len _ | exact len_ub (by assumption)⟩ | exact ⟨hs.ldM (by assumption) (by first | rfl | assumption), by first | rfl | assumption | exact encV_len _ | exact Enc.len _ | exact len_ub (by assumption)⟩ | exact ⟨by assumption, by first | rfl | assumption | exact encV_len _ | exact Enc.len _ | exact len_ub (by assumption)⟩ | exact hs.ldp | exact At.partC (by assumption))) ?_
  refine R.gyes rfl rfl ?_
  refine R.call ⟨_, _, Try.func18, rfl, by kernel_rfl⟩ rfl rfl (nilHas o.id hs) ?_
  rintro _ w1072 ⟨rfl, hs⟩
  refine R.gyes rfl rfl ?_
  refine R.ev rfl (E.notF rfl) ?_
  refine R.ev rfl (E.pickT rfl rfl) ?_
  refine R.ev rfl (E.move rfl) ?_
  refine R.gyes rfl rfl ?_
  refine R.ev rfl (E.move rfl) ?_
  refine R.gyes rfl rfl ?_
  refine R.call ⟨_, _, Try.func32, rfl, by kernel_rfl⟩ rfl rfl (nilEncode hs) ?_
  rintro _ w1077 ⟨rfl, hs⟩
  refine R.gyes rfl rfl ?_
  refine R.ev rfl (E.lenSl rfl Try.underlying57) ?_
  refine R.gyes rfl rfl ?_
  refine R.ev rfl ((E.eql rfl rfl).isT (by decide)) ?_
  refine R.ev rfl (E.pickT rfl rfl) ?_
  refine R.ev rfl (E.move rfl) ?_
  refine R.gyes rfl rfl ?_
  refine R.ev rfl (E.move rfl) ?_
  refine R.gyes rfl rfl ?_
  refine R.call ⟨_, _, Try.func37, rfl, by kernel_rfl⟩ rfl rfl (nilClone hs) ?_
  rintro _ w1083 ⟨rfl, hs⟩
  refine R.gyes rfl rfl ?_
  refine R.ev rfl (E.eqlNilT rfl rfl Try.underlying25) ?_
  refine R.ev rfl (E.pickT rfl rfl) ?_
  refine R.ev rfl (E.move rfl) ?_
  refine R.gyes rfl rfl ?_
  refine R.ev rfl (E.move rfl) ?_
  refine R.gyes rfl rfl ?_
  refine R.call ⟨_, _, Try.func39, rfl, by kernel_rfl⟩ rfl rfl (nilEqual hs) ?_
  rintro _ w1088 ⟨rfl, hs⟩
  refine R.ev rfl (E.pickT rfl rfl) ?_
  refine R.ev rfl (E.move rfl) ?_
  refine R.gyes rfl rfl ?_
  refine R.ev rfl (E.move rfl) ?_
  refine R.gyes rfl rfl ?_
  refine R.ev rfl (E.move rfl) ?_
  refine R.gyes rfl rfl ?_
  refine R.call ⟨_, _, Try.func39, rfl, by kernel_rfl⟩ rfl rfl (nilEqual2 hs) ?_
  rintro _ w1093 ⟨rfl, hs⟩
  refine R.gyes rfl rfl ?_
  refine R.ev rfl (E.notF rfl) ?_
  refine R.ev rfl (E.pickT rfl rfl) ?_
  refine R.ev rfl (E.move rfl) ?_
  refine R.gyes rfl rfl ?_
  refine R.ev rfl (E.move rfl) ?_
  refine R.gyes rfl rfl ?_
  refine R.call ⟨_, _, Try.func39, rfl, by kernel_rfl⟩ rfl rfl (nilEqual3 hs) ?_
  rintro _ w1098 ⟨rfl, hs⟩
  refine R.gyes rfl rfl ?_
  refine R.ev rfl (E.notF rfl) ?_
  refine R.ev rfl (E.pickT rfl rfl) ?_
  refine R.ev rfl (E.assign rfl) ?_
  refine R.done ?_
  refine X.keep [(2, _)] ⟨rfl, trivial⟩ ?_
  refine X.next ?_
  refine C.ret ?_
  refine X.ret1 rfl rfl ?_
  exact ⟨rfl, hs.mod⟩

namespace backlogNil
open Go.ChangeShapes Go.WideShapes Go.ChangeAt Go.RowKit
open Go.ChangeMaps (open_string shut_string)
set_option linter.unusedVariables false

theorem own : ownKnob Try.prog.godebug = none := by kernel_rfl
theorem laidOut : laidOutB Try.prog = true := by kernel_rfl
set_option maxRecDepth 100000 in
theorem lifted (os : Os) (started : os.Started) (H : Type) (enc : TypeId × Value → H) :
    ReturnsInHanded {} Try.checked os 10 .any (Rows.backlogNilSpec.pre6 enc Try.prog Try.f10 Rows.backlogNilRow.domain false) (Rows.backlogNilSpec.post enc Try.prog Try.f10 false true false false) := by
  refine returnsInHanded_of_change_sized (C := Try.checked) own started (by kernel_rfl) Try.func10
    (ChangeSpec.witness6 (enc := enc) (C := Try.checked) false ⟨#[], #[.agg #[.int .i64 0, .int .u8 0, .int .u8 0, .int .u8 0, .int .u8 0, .int .u8 0, .int .u8 0, .int .u8 0, .int .u8 0, .int .u8 0, .int .u8 0, .int .u8 0, .int .u8 0, .int .u8 0, .int .u8 0, .int .u8 0, .int .u8 0, .int .u8 0, .int .u8 0, .int .u8 0, .int .u8 0, .int .u8 0, .int .u8 0, .int .u8 0, .int .u8 0, .int .u8 0, .int .u8 0, .int .u8 0, .int .u8 0, .int .u8 0, .int .u8 0, .int .u8 0, .int .u8 0, .int .i64 0, .int .i64 0, .slice none 0 0]], []⟩ 8 (by kernel_rfl) (by kernel_rfl) (by kernel_rfl) (by kernel_rfl)) ?_
  intro W base args ds gs before hval0 hW hcnd hsz0 _
  have hval : ∀ (j : Nat) t v, Try.f10.params[j]? = some t → args[j]? = some v → Value.okWide Try.prog W .any base t v := hval0
  have hW' := hW
  obtain ⟨p, q, hA0, hV, rfl, hfz, hnd⟩ := hW
  have hA : DataW.TrodAll enc Try.prog W 0 (fun _ => true) true Try.f10.params.toList args.toList ds p := hA0
  rw [Try.params10] at hA hval
  obtain ⟨v0, vs0, d0, ds0, p0, q0, hargs, rfl, rfl, h0, r0⟩ := trodAll_cons hA
  obtain ⟨rfl, rfl, rfl⟩ := trodAll_nil r0
  obtain rfl : args = #[v0] := by cases args; simp_all
  obtain ⟨rfl, rfl⟩ := trodVars_none hV
  have lt0 : ∀ x ∈ p0, x.block < W.heap.size := by obtain ⟨m, hm⟩ := h0; exact DataW.trod_lt m _ _ _ hm
  have a0 := Eng.argv_of (hval 0 33 v0 rfl rfl) h0
  have z0 : Eng.ArgZ Try.prog 33 v0 := Eng.argz_of (j := 0) h0 hsz0 (by first | rfl | (rw [Try.params10]; rfl)) rfl
  clear hA0 hval0
  refine Calls.mono (nil_walk W v0 a0 z0) fun e W' ⟨v, he, hv, hm⟩ => ?_
  subst he
  subst hv
  have bel := hm.below
  exact ⟨_, rfl, _, _, _, [], _, [], hW', trodAll_mk1 (shut_bool Try.underlying4 _), (trodAll_cons_mk (Below.trod laidOut (by kernel_rfl) (of_decide_eq_true (by kernel_rfl)) h0 bel lt0) trodAll_mk0), rfl, bel.frame _, fun h => by cases h⟩

theorem over : Rows.backlogNilRow.holds Try.pinned (OpenSpec.ofChange Rows.backlogNilSpec) :=
  OpenClaim.holds_of_wide 10 Try.f10 rfl rfl rfl rfl rfl rfl rfl ⟨rfl, rfl, rfl, rfl, rfl⟩ rfl rfl rfl rfl rfl (by kernel_rfl) Try.func10 (by kernel_rfl)
    (of_decide_eq_true (by kernel_rfl)) (by unfold Func.isWrapper; first | (rw [if_pos (by decide +kernel)]; kernel_rfl) | (rw [if_neg (by decide +kernel)]; exact ⟨rfl, rfl⟩))
    (fun os started H enc _ => lifted os started H enc)
end backlogNil
/-- the statement -/
theorem backlogNil_holds : Rows.BacklogNilSaid := backlogNil.over
#print axioms backlogNil_holds
end Go.Proofs.Ytoidpcmcbmioiaa
