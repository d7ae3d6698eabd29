/-
 cmp.Compare and cmp.Or for ints.
-/
import Derived.Test.YtbkgibgomohdjaaGreatDoorMapOps
import Derived.Test.YtbkgibgomohdjaaGreatDoorTypes
namespace Go.Proofs.YtbkgibgomohdjaaGreatDoor
open Go.Eng Go.RowKit
variable {K : Kn} {Hs Rs : List Hl} {F : Hl} {w : World}
def cmpI (a b : Int) : Int := if a < b then -1 else if b < a then 1 else 0
def orI (a b : Int) : Int := if a ≠ 0 then a else b
theorem isNaN_any (a : Int) (w : World) : Ret Tryz.prog 65 #[.int .i64 a] w fun v w' => v = .bool false ∧ w = w' := by
 refine Ret.enter (n := 6) (args := [.int .i64 a]) Tryz.func65 rfl rfl ?_
 refine C.keep [(0, _)] ⟨rfl, trivial⟩ ?_
 refine C.seq ?_
 refine C.region ?_
 refine R.ev rfl (E.assign rfl) ?_
 refine R.done ?_
 refine X.keep [(0, _)] ⟨rfl, trivial⟩ ?_
 refine X.next ?_
 refine C.seq ?_
 refine C.region ?_
 refine R.ev rfl (E.move rfl) ?_
 refine R.ev rfl (E.move rfl) ?_
 refine R.ev rfl ((E.neq rfl rfl).isF (by simp)) ?_
 refine R.ev rfl (E.assign rfl) ?_
 refine R.done ?_
 refine X.keep [(2, _)] ⟨rfl, trivial⟩ ?_
 refine X.next ?_
 refine C.ret ?_
 refine X.ret1 rfl rfl ?_
 exact ⟨rfl, rfl⟩
theorem cmpCompare_any (a b : Int) (w : World) : Ret Tryz.prog 47 #[.int .i64 a, .int .i64 b] w fun v w' => v = .int .i64 (cmpI a b) ∧ w = w' := by
 refine Ret.enter (n := 20) (args := [.int .i64 a, .int .i64 b]) Tryz.func47 rfl rfl ?_
 refine C.keep [(0, _), (1, _)] ⟨rfl, rfl, trivial⟩ ?_
 refine C.seq ?_
 refine C.region ?_
 refine R.ev rfl (E.assign rfl) ?_
 refine R.done ?_
 refine X.keep [(0, _), (1, _)] ⟨rfl, rfl, trivial⟩ ?_
 refine X.next ?_
 refine C.seq ?_
 refine C.region ?_
 refine R.ev rfl (E.move rfl) ?_
 refine R.call ⟨_, _, Tryz.func65, rfl, by kernel_rfl⟩ rfl rfl (isNaN_any a _) ?_
 rintro _ _ ⟨rfl, rfl⟩
 refine R.ev rfl (E.assign rfl) ?_
 refine R.done ?_
 refine X.keep [(0, _), (1, _), (5, _)] ⟨rfl, rfl, rfl, trivial⟩ ?_
 refine X.next ?_
 refine C.seq ?_
 refine C.region ?_
 refine R.ev rfl (E.move rfl) ?_
 refine R.call ⟨_, _, Tryz.func65, rfl, by kernel_rfl⟩ rfl rfl (isNaN_any b _) ?_
 rintro _ _ ⟨rfl, rfl⟩
 refine R.ev rfl (E.assign rfl) ?_
 refine R.done ?_
 refine X.keep [(0, _), (1, _), (5, _), (6, _)] ⟨rfl, rfl, rfl, rfl, trivial⟩ ?_
 refine X.next ?_
 refine C.seq ?_
 refine C.seq ?_
 refine C.region ?_
 refine R.ev rfl (E.move rfl) ?_
 refine R.done ?_
 refine X.keep [(0, _), (1, _), (6, _), (11, _)] ⟨rfl, rfl, rfl, rfl, trivial⟩ ?_
 refine X.next ?_
 refine C.cfalse rfl ?_
 refine C.skip ?_
 refine X.next ?_
 refine C.seq ?_
 refine C.seq ?_
 refine C.region ?_
 refine R.ev rfl (E.move rfl) ?_
 refine R.done ?_
 refine X.keep [(0, _), (1, _), (13, _)] ⟨rfl, rfl, rfl, trivial⟩ ?_
 refine X.next ?_
 refine C.cfalse rfl ?_
 refine C.skip ?_
 refine X.next ?_
 refine C.seq ?_
 refine C.seq ?_
 refine C.region ?_
 refine R.ev rfl (E.move rfl) ?_
 refine R.ev rfl (E.move rfl) ?_
 refine R.ev rfl (E.lss rfl rfl) ?_
 refine R.done ?_
 refine X.keep [(0, _), (1, _), (16, _)] ⟨rfl, rfl, rfl, trivial⟩ ?_
 refine X.next ?_
 refine C.cdec rfl (fun h16 => ?_) (fun h16 => ?_)
 refine C.seq ?_
 refine C.region ?_
 refine R.ev rfl (E.assign rfl) ?_
 refine R.done ?_
 refine X.keep [(4, _)] ⟨rfl, trivial⟩ ?_
 refine X.next ?_
 refine C.ret ?_
 refine X.thenRet ?_
 refine X.ret1 rfl rfl ?_
 exact ⟨by rw [cmpI, if_pos h16], rfl⟩
 refine C.skip ?_
 refine X.next ?_
 refine C.seq ?_
 refine C.seq ?_
 refine C.region ?_
 refine R.ev rfl (E.move rfl) ?_
 refine R.ev rfl (E.move rfl) ?_
 refine R.ev rfl (E.gtr rfl rfl) ?_
 refine R.done ?_
 refine X.keep [(19, _)] ⟨rfl, trivial⟩ ?_
 refine X.next ?_
 refine C.cdec rfl (fun h19 => ?_) (fun h19 => ?_)
 refine C.seq ?_
 refine C.region ?_
 refine R.ev rfl (E.assign rfl) ?_
 refine R.done ?_
 refine X.keep [(4, _)] ⟨rfl, trivial⟩ ?_
 refine X.next ?_
 refine C.ret ?_
 refine X.thenRet ?_
 refine X.ret1 rfl rfl ?_
 exact ⟨by rw [cmpI, if_neg h16, if_pos h19], rfl⟩
 refine C.skip ?_
 refine X.next ?_
 refine C.seq ?_
 refine C.region ?_
 refine R.ev rfl (E.assign rfl) ?_
 refine R.done ?_
 refine X.keep [(4, _)] ⟨rfl, trivial⟩ ?_
 refine X.next ?_
 refine C.ret ?_
 refine X.ret1 rfl rfl ?_
 exact ⟨by rw [cmpI, if_neg h16, if_neg h19], rfl⟩
theorem cmpOr_any {b : Nat} {t : TypeId} (a c : Int) (hs : Sat K w Hs) [hb : InH b (.cells [.int .i64 a, .int .i64 c].toArray t (0, 0)) Hs] : Ret Tryz.prog 46 #[.slice (some ⟨b, 0, none⟩) 2 2] w fun v w' => v = .int .i64 (orI a c) ∧ Sat K w' Hs := by
 refine Ret.enter (n := 18) (args := [.slice (some ⟨b, 0, none⟩) 2 2]) Tryz.func46 rfl rfl ?_
 refine C.keep [(0, _)] ⟨rfl, trivial⟩ ?_
 refine C.seq ?_
 refine C.region ?_
 refine R.ev rfl (E.assign rfl) ?_
 refine R.done ?_
 refine X.keep [(0, _)] ⟨rfl, trivial⟩ ?_
 refine X.next ?_
 refine C.seq ?_
 refine C.region ?_
 refine R.ev rfl (E.assign rfl) ?_
 refine R.done ?_
 refine X.keep [(0, _), (3, _)] ⟨rfl, rfl, trivial⟩ ?_
 refine X.next ?_
 refine C.seq ?_
 refine C.seq ?_
 refine C.region ?_
 refine R.ev rfl (E.move rfl) ?_
 refine R.ev rfl (E.lenSl rfl Tryz.underlying119) ?_
 refine R.ev rfl (E.move rfl) ?_
 refine R.done ?_
 refine X.keep [(3, _), (6, _), (7, _), (8, _)] ⟨rfl, rfl, rfl, rfl, trivial⟩ ?_
 refine X.next ?_
 refine C.block ?_
 refine C.loop  [(3, _), (6, _), (7, _)] (fun k => [(8, .int .i64 (k : Nat))]) (fun k w' => k ≤ 2 ∧ (1 ≤ k → a = 0) ∧ (2 ≤ k → c = 0) ∧ Sat K w' Hs) (fun k => 2 - k) (0) ⟨rfl, rfl, rfl, rfl, trivial⟩ ⟨by omega, by omega, by omega, hs⟩ ?_
 rintro k w1 ⟨hk, ha, hc, hs⟩
 refine C.keep [(3, _), (6, _), (7, _), (8, _)] ⟨rfl, rfl, rfl, rfl, trivial⟩ ?_
 refine C.seq ?_
 refine C.region ?_
 refine R.ev rfl (E.lss rfl rfl) ?_
 refine R.done ?_
 refine X.keep [(3, _), (6, _), (7, _), (8, _), (9, _)] ⟨rfl, rfl, rfl, rfl, rfl, trivial⟩ ?_
 refine X.next ?_
 refine C.seq ?_
 refine C.cdec rfl (fun h9 => ?_) (fun h9 => ?_)
 have hcell : w1.cell? ⟨b, 0 + k * 1, none⟩ = some (.int .i64 (if k = 0 then a else c)) := by
   rcases (show k = 0 ∨ k = 1 by omega) with rfl | rfl
   · exact hs.ld rfl
   · exact hs.ld rfl
 refine C.skip ?_
 refine X.next ?_
 refine C.seq ?_
 refine C.block ?_
 refine C.seq ?_
 refine C.region ?_
 refine R.ev rfl (E.indexAddr rfl rfl Tryz.underlying119 Tryz.sz3 rfl (by first | omega | decide)) ?_
 refine R.ev rfl (E.load1 rfl Tryz.underlying3 rfl hcell) ?_
 refine R.ev rfl (E.assign rfl) ?_
 refine R.done ?_
 refine X.keep [(3, _), (5, _), (6, _), (7, _), (8, _)] ⟨rfl, rfl, rfl, rfl, rfl, trivial⟩ ?_
 refine X.next ?_
 refine C.seq ?_
 refine C.region ?_
 refine R.ev rfl (E.move rfl) ?_
 refine R.ev rfl (E.move rfl) ?_
 refine R.ev rfl (E.neq rfl rfl) ?_
 refine R.done ?_
 refine X.keep [(3, _), (5, _), (6, _), (7, _), (8, _), (14, _)] ⟨rfl, rfl, rfl, rfl, rfl, rfl, trivial⟩ ?_
 refine X.next ?_
 refine C.cdec rfl (fun h14 => ?_) (fun h14 => ?_)
 refine C.seq ?_
 refine C.region ?_
 refine R.ev rfl (E.move rfl) ?_
 refine R.ev rfl (E.assign rfl) ?_
 refine R.done ?_
 refine X.keep [(2, _)] ⟨rfl, trivial⟩ ?_
 refine X.next ?_
 refine C.ret ?_
 refine X.blockRet ?_
 refine X.thenRet ?_
 refine X.loopRet ?_
 refine X.blockRet ?_
 refine X.thenRet ?_
 refine X.ret1 rfl rfl ?_
 rcases (show k = 0 ∨ k = 1 by omega) with rfl | rfl
 · rw [if_pos rfl] at h14 ⊢
   exact ⟨by rw [orI, if_pos h14], hs⟩
 · rw [if_neg (by decide)] at h14 ⊢
   exact ⟨by rw [orI, if_neg (by simp [ha (by omega)])], hs⟩
 refine C.skip ?_
 refine X.blockNormal ?_
 refine X.next ?_
 refine C.region ?_
 refine R.ev rfl (E.add rfl rfl (by omega) (by omega)) ?_
 refine R.ev rfl (E.move rfl) ?_
 refine R.done ?_
 refine X.keep [(3, _), (6, _), (7, _), (8, _)] ⟨rfl, rfl, rfl, rfl, trivial⟩ ?_
 have h14 := Decidable.not_not.1 h14
 refine X.again (k + 1) ⟨rfl, rfl, rfl, rfl, trivial⟩ ⟨by omega, fun h => ?_, fun h => ?_, hs⟩ (by omega)
 · rcases (show k = 0 ∨ k = 1 by omega) with rfl | rfl
   · simpa using h14
   · exact ha (by omega)
 · have : k ≠ 0 := by omega
   rwa [if_neg this] at h14
 refine C.exit ?_
 refine X.thenExit ?_
 refine X.loopExit ?_
 refine X.blockExit ?_
 refine X.next ?_
 refine C.seq ?_
 refine C.region ?_
 refine R.ev rfl (E.move rfl) ?_
 refine R.ev rfl (E.assign rfl) ?_
 refine R.done ?_
 refine X.keep [(2, _)] ⟨rfl, trivial⟩ ?_
 refine X.next ?_
 refine C.ret ?_
 refine X.ret1 rfl rfl ?_
 exact ⟨by rw [orI, ha (by omega), hc (by omega)]; rfl, hs⟩
end Go.Proofs.YtbkgibgomohdjaaGreatDoor
