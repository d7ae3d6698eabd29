/-
  Contracts of the byte classes of package ascii and of msgid's classes.
-/
import Derived.Test.YtifghjeapfijkaaGreatDoorTypes
namespace Go.Proofs.YtifghjeapfijkaaGreatDoor
open Go.Eng Go.RowKit

def isDig (c : Int) : Bool := decide (48 ≤ c) && decide (c ≤ 57)
def isLow (c : Int) : Bool := decide (97 ≤ c) && decide (c ≤ 122)
def isHexd (c : Int) : Bool := isDig c || (decide (97 ≤ c) && decide (c ≤ 102))
def isPerm (c : Int) : Bool := isLow c || (isDig c || (decide (c = 45) || decide (c = 46)))

theorem isDigit_any (c : Int) (w : World) : Ret Tryz.prog 77 #[.int .u8 c] w fun v w' => v = .bool (isDig c) ∧ w = w' := by
  refine Ret.enter (n := 9) (args := [.int .u8 c]) Tryz.func77 rfl rfl ?_
  refine C.keep [(0, _)] ⟨rfl, trivial⟩ ?_
  refine C.seq ?_
  refine C.region ?_
  refine R.ev rfl (E.assign rfl) ?_
  refine R.done ?_
  refine X.keep [(0, _)] ⟨rfl, trivial⟩ ?_
  refine X.next ?_
  refine C.seq ?_
  refine C.region ?_
  refine R.ev rfl (E.move rfl) ?_
  refine R.ev rfl (E.geq rfl rfl) ?_
  refine R.ev rfl (E.move rfl) ?_
  refine R.split 5 rfl (fun h5 => ?_) (fun h5 => ?_)
  · refine R.gyes rfl rfl ?_
    refine R.ev rfl (E.move rfl) ?_
    refine R.gyes rfl rfl ?_
    refine R.ev rfl (E.leq rfl rfl) ?_
    refine R.ev rfl (E.pickT rfl rfl) ?_
    refine R.ev rfl (E.assign rfl) ?_
    refine R.done ?_
    refine X.keep [(2, _)] ⟨rfl, trivial⟩ ?_
    refine X.next ?_
    refine C.ret ?_
    refine X.ret1 rfl rfl ?_
    exact ⟨by first | (simp_all [isDig]; done) | (simp_all [isDig]; omega), rfl⟩
  · refine R.gskip rfl rfl rfl ?_
    refine R.gskip rfl rfl rfl ?_
    refine R.ev rfl (E.pickF rfl rfl) ?_
    refine R.ev rfl (E.assign rfl) ?_
    refine R.done ?_
    refine X.keep [(2, _)] ⟨rfl, trivial⟩ ?_
    refine X.next ?_
    refine C.ret ?_
    refine X.ret1 rfl rfl ?_
    exact ⟨by first | (simp_all [isDig]; done) | (simp_all [isDig]; omega), rfl⟩
theorem isLower_any (c : Int) (w : World) : Ret Tryz.prog 76 #[.int .u8 c] w fun v w' => v = .bool (isLow c) ∧ w = w' := by
  refine Ret.enter (n := 9) (args := [.int .u8 c]) Tryz.func76 rfl rfl ?_
  refine C.keep [(0, _)] ⟨rfl, trivial⟩ ?_
  refine C.seq ?_
  refine C.region ?_
  refine R.ev rfl (E.assign rfl) ?_
  refine R.done ?_
  refine X.keep [(0, _)] ⟨rfl, trivial⟩ ?_
  refine X.next ?_
  refine C.seq ?_
  refine C.region ?_
  refine R.ev rfl (E.move rfl) ?_
  refine R.ev rfl (E.geq rfl rfl) ?_
  refine R.ev rfl (E.move rfl) ?_
  refine R.split 5 rfl (fun h5 => ?_) (fun h5 => ?_)
  · refine R.gyes rfl rfl ?_
    refine R.ev rfl (E.move rfl) ?_
    refine R.gyes rfl rfl ?_
    refine R.ev rfl (E.leq rfl rfl) ?_
    refine R.ev rfl (E.pickT rfl rfl) ?_
    refine R.ev rfl (E.assign rfl) ?_
    refine R.done ?_
    refine X.keep [(2, _)] ⟨rfl, trivial⟩ ?_
    refine X.next ?_
    refine C.ret ?_
    refine X.ret1 rfl rfl ?_
    exact ⟨by first | (simp_all [isLow]; done) | (simp_all [isLow]; omega), rfl⟩
  · refine R.gskip rfl rfl rfl ?_
    refine R.gskip rfl rfl rfl ?_
    refine R.ev rfl (E.pickF rfl rfl) ?_
    refine R.ev rfl (E.assign rfl) ?_
    refine R.done ?_
    refine X.keep [(2, _)] ⟨rfl, trivial⟩ ?_
    refine X.next ?_
    refine C.ret ?_
    refine X.ret1 rfl rfl ?_
    exact ⟨by first | (simp_all [isLow]; done) | (simp_all [isLow]; omega), rfl⟩
theorem isPermitted_any (c : Int) (w : World) : Ret Tryz.prog 75 #[.int .u8 c] w fun v w' => v = .bool (isPerm c) ∧ w = w' := by
  refine Ret.enter (n := 17) (args := [.int .u8 c]) Tryz.func75 rfl rfl ?_
  refine C.keep [(0, _)] ⟨rfl, trivial⟩ ?_
  refine C.seq ?_
  refine C.region ?_
  refine R.ev rfl (E.assign rfl) ?_
  refine R.done ?_
  refine X.keep [(0, _)] ⟨rfl, trivial⟩ ?_
  refine X.next ?_
  refine C.seq ?_
  refine C.region ?_
  refine R.ev rfl (E.move rfl) ?_
  refine R.call ⟨_, _, Tryz.func76, rfl, by kernel_rfl⟩ rfl rfl (isLower_any _ _) ?_
  rintro _ _ ⟨rfl, rfl⟩
  refine R.ev rfl (E.move rfl) ?_
  refine R.split 5 rfl (fun h5 => ?_) (fun h5 => ?_)
  · refine R.gskip rfl rfl rfl ?_
    refine R.gskip rfl rfl rfl ?_
    refine R.ev rfl (E.pickT rfl rfl) ?_
    refine R.ev rfl (E.move rfl) ?_
    refine R.gskip rfl rfl rfl ?_
    refine R.gskip rfl rfl rfl ?_
    refine R.ev rfl (E.pickT rfl rfl) ?_
    refine R.ev rfl (E.move rfl) ?_
    refine R.gskip rfl rfl rfl ?_
    refine R.gskip rfl rfl rfl ?_
    refine R.ev rfl (E.pickT rfl rfl) ?_
    refine R.ev rfl (E.assign rfl) ?_
    refine R.done ?_
    refine X.keep [(2, _)] ⟨rfl, trivial⟩ ?_
    refine X.next ?_
    refine C.ret ?_
    refine X.ret1 rfl rfl ?_
    exact ⟨by first | (simp_all [isPerm]; done) | (simp_all [isPerm]; omega), rfl⟩
  · refine R.gyes rfl rfl ?_
    refine R.ev rfl (E.move rfl) ?_
    refine R.gyes rfl rfl ?_
    refine R.call ⟨_, _, Tryz.func77, rfl, by kernel_rfl⟩ rfl rfl (isDigit_any _ _) ?_
    rintro _ _ ⟨rfl, rfl⟩
    refine R.ev rfl (E.pickF rfl rfl) ?_
    refine R.ev rfl (E.move rfl) ?_
    refine R.split 9 rfl (fun h9 => ?_) (fun h9 => ?_)
    · refine R.gskip rfl rfl rfl ?_
      refine R.gskip rfl rfl rfl ?_
      refine R.ev rfl (E.pickT rfl rfl) ?_
      refine R.ev rfl (E.move rfl) ?_
      refine R.gskip rfl rfl rfl ?_
      refine R.gskip rfl rfl rfl ?_
      refine R.ev rfl (E.pickT rfl rfl) ?_
      refine R.ev rfl (E.assign rfl) ?_
      refine R.done ?_
      refine X.keep [(2, _)] ⟨rfl, trivial⟩ ?_
      refine X.next ?_
      refine C.ret ?_
      refine X.ret1 rfl rfl ?_
      exact ⟨by first | (simp_all [isPerm]; done) | (simp_all [isPerm]; omega), rfl⟩
    · refine R.gyes rfl rfl ?_
      refine R.ev rfl (E.move rfl) ?_
      refine R.gyes rfl rfl ?_
      refine R.ev rfl (E.eql rfl rfl) ?_
      refine R.ev rfl (E.pickF rfl rfl) ?_
      refine R.ev rfl (E.move rfl) ?_
      refine R.split 13 rfl (fun h13 => ?_) (fun h13 => ?_)
      · refine R.gskip rfl rfl rfl ?_
        refine R.gskip rfl rfl rfl ?_
        refine R.ev rfl (E.pickT rfl rfl) ?_
        refine R.ev rfl (E.assign rfl) ?_
        refine R.done ?_
        refine X.keep [(2, _)] ⟨rfl, trivial⟩ ?_
        refine X.next ?_
        refine C.ret ?_
        refine X.ret1 rfl rfl ?_
        exact ⟨by first | (simp_all [isPerm]; done) | (simp_all [isPerm]; omega), rfl⟩
      · refine R.gyes rfl rfl ?_
        refine R.ev rfl (E.move rfl) ?_
        refine R.gyes rfl rfl ?_
        refine R.ev rfl (E.eql rfl rfl) ?_
        refine R.ev rfl (E.pickF rfl rfl) ?_
        refine R.ev rfl (E.assign rfl) ?_
        refine R.done ?_
        refine X.keep [(2, _)] ⟨rfl, trivial⟩ ?_
        refine X.next ?_
        refine C.ret ?_
        refine X.ret1 rfl rfl ?_
        exact ⟨by first | (simp_all [isPerm]; done) | (simp_all [isPerm]; omega), rfl⟩
end Go.Proofs.YtifghjeapfijkaaGreatDoor
