/-
  bulletintop.ready16.
-/
import Derived.Test.YtifghjeapfijkaaGreatDoorFeed
import Derived.Test.YtifghjeapfijkaaGreatDoorBklS
import Derived.Test.YtifghjeapfijkaaGreatDoorBklI
import Derived.Test.YtifghjeapfijkaaGreatDoorHis4
namespace Go.Proofs.YtifghjeapfijkaaGreatDoor
open Go.Eng Go.RowKit

variable {K : Kn} {Hs Rs : List Hl} {F : Hl} {w : World} {p : Nat}
abbrev rdyT : List UInt8 := [97, 46, 42, 44, 33, 97, 46, 98]
theorem rdy_ok : rdyT ≠ [] ∧ rdyT.length ≤ 1000 ∧ (splitL 44 rdyT).length ≤ 64 ∧ ∀ q ∈ splitL 44 rdyT, okP q := by decide
theorem rdy_v1 : verd ((splitL 44 rdyT).map entO) [97, 46, 99] = 1 := by decide +kernel
theorem rdy_v2 : verd ((splitL 44 rdyT).map entO) [97, 46, 98] = 2 := by decide +kernel
theorem rdy_n : okN [97, 46, 98] := by decide +kernel
theorem ready_any (hs : Sat K w Hs) : Ret Tryz.prog 4 #[] w fun v w' => ∃ K', KLe K K' ∧ v = .bool true ∧ Sat K' w' Hs := by
  refine Ret.enter (n := 47) (args := []) Tryz.func4 rfl rfl ?_
  refine C.keep [] trivial ?_
  refine C.seq ?_
  refine C.region ?_
  refine R.ev rfl (E.assign rfl) ?_
  refine R.done ?_
  refine X.keep [] trivial ?_
  refine X.next ?_
  refine C.seq ?_
  refine C.region ?_
  refine R.call ⟨_, _, Tryz.func22, rfl, by kernel_rfl⟩ rfl rfl (parseList_any rdyT rdy_ok.1 rdy_ok.2.1 rdy_ok.2.2.1 rdy_ok.2.2.2 hs) ?_
  rintro _ w1 ⟨K1, l1, hK1, rfl, hl1, hs⟩
  refine R.ev rfl (E.move rfl) ?_
  refine R.ev rfl (E.extract rfl rfl) ?_
  refine R.ev rfl (E.extract rfl rfl) ?_
  refine R.ev rfl (E.extract rfl rfl) ?_
  refine R.ev rfl (E.assign rfl) ?_
  refine R.ev rfl (E.assign rfl) ?_
  refine R.ev rfl (E.assign rfl) ?_
  refine R.done ?_
  refine X.keep [(1, _), (3, _)] ⟨rfl, rfl, trivial⟩ ?_
  refine X.next ?_
  refine C.seq ?_
  refine C.region ?_
  refine R.call ⟨_, _, Tryz.func6, rfl, by kernel_rfl⟩ rfl rfl (new_any 1 1 hs) ?_
  rintro _ w2 (⟨h, _⟩ | ⟨_, p2, F2, rfl, hw2, hs⟩)
  · exact absurd h (by decide)
  refine R.ev rfl (E.move rfl) ?_
  refine R.ev rfl (E.extract rfl rfl) ?_
  refine R.ev rfl (E.extract rfl rfl) ?_
  refine R.ev rfl (E.assign rfl) ?_
  refine R.ev rfl (E.assign rfl) ?_
  refine R.done ?_
  refine X.keep [(1, _), (3, _), (4, _), (5, _)] ⟨rfl, rfl, rfl, rfl, trivial⟩ ?_
  refine X.next ?_
  refine C.seq ?_
  refine C.region ?_
  refine R.ev rfl (E.move rfl) ?_
  refine R.ev rfl ((E.eql rfl rfl).isT (by decide)) ?_
  refine R.ev rfl (E.move rfl) ?_
  refine R.gyes rfl rfl ?_
  refine R.ev rfl (E.move rfl) ?_
  refine R.gyes rfl rfl ?_
  refine R.ev rfl (E.neNilT rfl rfl Tryz.underlying67) ?_
  refine R.ev rfl (E.pickT rfl rfl) ?_
  refine R.ev rfl (E.move rfl) ?_
  refine R.gyes rfl rfl ?_
  refine R.ev rfl (E.move rfl) ?_
  refine R.gyes rfl rfl ?_
  refine R.call ⟨_, _, Tryz.func23, rfl, by kernel_rfl⟩ rfl rfl (verdict_any [97, 46, 99] hs (by decide) (by decide)) ?_
  rintro _ w3 ⟨rfl, hs⟩
  rw [rdy_v1]
  refine R.gyes rfl rfl ?_
  refine R.ev rfl ((E.eql rfl rfl).isT (by decide)) ?_
  refine R.ev rfl (E.pickT rfl rfl) ?_
  refine R.ev rfl (E.move rfl) ?_
  refine R.gyes rfl rfl ?_
  refine R.ev rfl (E.move rfl) ?_
  refine R.gyes rfl rfl ?_
  refine R.call ⟨_, _, Tryz.func23, rfl, by kernel_rfl⟩ rfl rfl (verdict_any [97, 46, 98] hs (by decide) (by decide)) ?_
  rintro _ w4 ⟨rfl, hs⟩
  rw [rdy_v2]
  refine R.gyes rfl rfl ?_
  refine R.ev rfl ((E.eql rfl rfl).isT (by decide)) ?_
  refine R.ev rfl (E.pickT rfl rfl) ?_
  refine R.ev rfl (E.move rfl) ?_
  refine R.gyes rfl rfl ?_
  refine R.ev rfl (E.move rfl) ?_
  refine R.gyes rfl rfl ?_
  refine R.ev rfl ((E.eql rfl rfl).isT (by decide)) ?_
  refine R.ev rfl (E.pickT rfl rfl) ?_
  refine R.ev rfl (E.move rfl) ?_
  refine R.gyes rfl rfl ?_
  refine R.ev rfl (E.move rfl) ?_
  refine R.gyes rfl rfl ?_
  refine R.ev rfl (E.neNilT rfl rfl Tryz.underlying33) ?_
  refine R.ev rfl (E.pickT rfl rfl) ?_
  refine R.ev rfl (E.move rfl) ?_
  refine R.gyes rfl rfl ?_
  refine R.call ⟨_, _, Tryz.func7, rfl, by kernel_rfl⟩ rfl rfl (Hist.new_any hs) ?_
  rintro _ w5 ⟨p5, F5, rfl, hw5, hs⟩
  refine R.gyes rfl rfl ?_
  refine R.ev rfl (E.neNilT rfl rfl Tryz.underlying36) ?_
  refine R.ev rfl (E.pickT rfl rfl) ?_
  refine R.ev rfl (E.move rfl) ?_
  refine R.gyes rfl rfl ?_
  refine R.call ⟨_, _, Tryz.func24, rfl, by kernel_rfl⟩ rfl rfl (gcheck_any [97, 46, 98] rdy_n hs) ?_
  rintro _ w6 ⟨rfl, hs⟩
  refine R.gyes rfl rfl ?_
  refine R.ev rfl ((E.eql rfl rfl).isT (by decide)) ?_
  refine R.ev rfl (E.pickT rfl rfl) ?_
  refine R.ev rfl (E.assign rfl) ?_
  refine R.done ?_
  refine X.keep [(0, _)] ⟨rfl, trivial⟩ ?_
  refine X.next ?_
  refine C.ret ?_
  refine X.ret1 rfl rfl ?_
  exact ⟨K1, hK1, rfl, hs.to⟩
end Go.Proofs.YtifghjeapfijkaaGreatDoor
