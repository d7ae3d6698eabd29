/-
  package history: the entries as a list of pairs; the methods as plain functions.
-/
import Derived.Test.YtifghjeapfijkaaGreatDoorMapOps
import Derived.Test.YtifghjeapfijkaaGreatDoorPtr
import Derived.Test.YtifghjeapfijkaaGreatDoorRng
import Derived.Test.YtifghjeapfijkaaGreatDoorTypes
import Derived.Test.YtifghjeapfijkaaGreatDoorByt
namespace Go.Proofs.YtifghjeapfijkaaGreatDoor.Hist
open Go.Eng Go.RowKit

structure HEnt where
  id : Vec 32
  arr : Int
  date : Int
  state : Int
  perm : Bool
deriving DecidableEq
def encH (o : HEnt) : List Value := o.id.1.map ub ++ [.int .i64 o.arr, .int .i64 o.date, .int .i64 o.state, .bool o.perm]
abbrev evH (o : HEnt) : Value := .agg (encH o).toArray
def vz : Vec 32 := ⟨List.replicate 32 0, rfl⟩
def hz : HEnt := ⟨vz, 0, 0, 0, false⟩
instance : Inhabited HEnt := ⟨hz⟩
instance {o : HEnt} : CellOf (encH o) 32 (.int .i64 o.arr) := ⟨by simp [encH, o.id.2]⟩
instance {o : HEnt} : CellOf (encH o) 33 (.int .i64 o.date) := ⟨by simp [encH, o.id.2]⟩
instance {o : HEnt} : CellOf (encH o) 34 (.int .i64 o.state) := ⟨by simp [encH, o.id.2]⟩
instance {o : HEnt} : CellOf (encH o) 35 (.bool o.perm) := ⟨by simp [encH, o.id.2]⟩
instance {o : HEnt} : PartOf (encH o) 0 32 (o.id.1.map ub) := PartOf.mk' (c1 := []) rfl rfl (encV_len _)
instance : Enc encH 36 := ⟨fun o => by simp [encH, o.id.2], fun o u hu => by
  simp only [encH, List.mem_append, List.mem_cons, List.not_mem_nil, or_false] at hu
  rcases hu with hu | rfl | rfl | rfl | rfl
  · exact ub_all _ u hu
  · rfl
  · rfl
  · rfl
  · rfl⟩
theorem encH_fits (o : HEnt) (_ : (encH o).length = 36) : fitsAll (List.replicate 32 (lInt .u8) ++ (List.replicate 3 (lInt .i64) ++ [lBool])) (encH o) = true := fitsAll_mk (fitsN o.id.2) rfl
theorem encH_eq {o o' : HEnt} (_ : (encH o).length = 36) (_ : (encH o').length = 36) : cellsEq (encH o) (encH o') = decide (o = o') := by
  rw [encH, encH, cellsEq_app _ _ _ _ (by simp [o.id.2, o'.id.2]), cellsEq_vec, Bool.eq_iff_iff]
  cases o; cases o'; simp [cellsEq, cellEq]
instance : ZeroEnc Tryz.prog 50 evH hz := ⟨Tryz.zr50⟩
abbrev HMap := List (Vec 32 × HEnt)
/-- a history -/
structure Hi where
  M : HMap
  cut : Int
class HiL (p : Nat) (s : outParam Hi) (F : outParam Hl) : Prop where
  ex : ∃ m G, F = row p 82 [m, .int .i64 s.cut] ++ G ∧ MapL ekI evH m s.M G
class HiIn (p : Nat) (s : outParam Hi) (Hs : List Hl) : Prop where
  ex : ∃ m G, InH p (.cells [m, .int .i64 s.cut].toArray 82 (0, 0)) Hs ∧ MapL ekI evH m s.M G ∧ FIn G Hs
instance {p : Nat} {s : Hi} {A : Hl} {Hs : List Hl} [h : HiIn p s Hs] : HiIn p s (A :: Hs) := ⟨by
  obtain ⟨m, G, h1, h2, h3⟩ := h.ex
  exact ⟨m, G, inferInstance, h2, inferInstance⟩⟩
instance {p : Nat} {s : Hi} {F : Hl} {Hs : List Hl} [h : HiL p s F] [k : FIn F Hs] : HiIn p s Hs := ⟨by
  obtain ⟨m, G, rfl, h1⟩ := h.ex
  exact ⟨m, G, k.app.1.row, h1, k.app.2⟩⟩
theorem HiIn.parts {p : Nat} {s : Hi} {m : Value} {G : Hl} {Hs : List Hl} [h : InH p (.cells [m, .int .i64 s.cut].toArray 82 (0, 0)) Hs] [r : MapL ekI evH m s.M G] [k : FIn G Hs] : HiIn p s Hs := ⟨⟨m, G, h, r, k⟩⟩
theorem HiL.mk' {p : Nat} {c : Int} {m : Value} {M : HMap} {G : Hl} (k : MapL ekI evH m M G) : HiL p ⟨M, c⟩ (row p 82 [m, .int .i64 c] ++ G) := ⟨m, G, rfl, k⟩

variable {K : Kn} {Hs Rs : List Hl} {F : Hl} {w : World} {p : Nat} {s : Hi}
def isMin (n : Int) : Bool := decide (0 ≤ n) && decide (n ≤ 105190559)
def old (d n : Int) : Bool := decide (d < n - 20160)
theorem isMinute_any (n : Int) (w : World) : Ret Tryz.prog 57 #[.int .i64 n] w fun v w' => v = .bool (isMin n) ∧ w = w' := by
  refine Ret.enter (n := 9) (args := [.int .i64 n]) Tryz.func57 rfl rfl ?_
  refine C.keep [(0, _)] ⟨rfl, trivial⟩ ?_
  refine C.seq ?_
  refine C.region ?_
  refine R.ev rfl (E.assign rfl) ?_
  refine R.done ?_
  refine X.keep [(0, _)] ⟨rfl, trivial⟩ ?_
  refine X.next ?_
  refine C.seq ?_
  refine C.region ?_
  refine R.ev rfl (E.move rfl) ?_
  refine R.ev rfl (E.geq rfl rfl) ?_
  refine R.ev rfl (E.move rfl) ?_
  refine R.split 5 rfl (fun h5 => ?_) (fun h5 => ?_)
  · refine R.gyes rfl rfl ?_
    refine R.ev rfl (E.move rfl) ?_
    refine R.gyes rfl rfl ?_
    refine R.ev rfl (E.leq rfl rfl) ?_
    refine R.ev rfl (E.pickT rfl rfl) ?_
    refine R.ev rfl (E.assign rfl) ?_
    refine R.done ?_
    refine X.keep [(2, _)] ⟨rfl, trivial⟩ ?_
    refine X.next ?_
    refine C.ret ?_
    refine X.ret1 rfl rfl ?_
    exact ⟨by first | (simp_all [isMin]; done) | (simp_all [isMin]; omega), rfl⟩
  · refine R.gskip rfl rfl rfl ?_
    refine R.gskip rfl rfl rfl ?_
    refine R.ev rfl (E.pickF rfl rfl) ?_
    refine R.ev rfl (E.assign rfl) ?_
    refine R.done ?_
    refine X.keep [(2, _)] ⟨rfl, trivial⟩ ?_
    refine X.next ?_
    refine C.ret ?_
    refine X.ret1 rfl rfl ?_
    exact ⟨by first | (simp_all [isMin]; done) | (simp_all [isMin]; omega), rfl⟩
def HEnt.check (x : HEnt) : Int := if isMin x.arr = false ∨ isMin x.date = false then 13 else if x.state ≠ 0 ∧ x.state ≠ 1 then 11 else 0
theorem check_any (x : HEnt) (hs : Sat K w Hs) : Ret Tryz.prog 29 #[evH x] w fun v w' => v = .int .i64 x.check ∧ Sat K w' Hs := by
  refine Ret.enter (n := 23) (args := [evH x]) Tryz.func29 rfl rfl ?_
  refine C.keep [(0, _)] ⟨rfl, trivial⟩ ?_
  refine C.seq ?_
  refine C.region ?_
  refine R.sboxA hs rfl rfl ?_
  intro b1 w1 hs
  refine R.ev rfl (E.assign rfl) ?_
  refine R.done ?_
  refine X.keep [(1, _)] ⟨rfl, trivial⟩ ?_
  refine X.next ?_
  refine C.seq ?_
  refine C.block ?_
  refine C.seq ?_
  refine C.region ?_
  first | refine R.ev rfl (E.fieldAddr0 32 rfl Tryz.underlying50 rfl Tryz.sz3 rfl) ?_ | refine R.ev rfl (E.fieldAddrN 32 rfl Tryz.underlying50 rfl Tryz.sz3 rfl) ?_
  refine R.ev rfl (E.load1 rfl Tryz.underlying3 rfl (by first | exact hs.ldc | exact hs.ld rfl | exact hs.ld (by assumption) | exact by assumption | exact At.cellC (by assumption) | exact hs.ldK rfl)) ?_
  refine R.call ⟨_, _, Tryz.func57, rfl, by kernel_rfl⟩ rfl rfl (isMinute_any x.arr _) ?_
  rintro _ _ ⟨rfl, rfl⟩
  refine R.ev rfl ((E.not rfl).isB (c := !(isMin x.arr)) rfl) ?_
  refine R.ev rfl (E.move rfl) ?_
  refine R.split 8 rfl (fun h8 => ?_) (fun h8 => ?_)
  · refine R.gskip rfl rfl rfl ?_
    refine R.gskip rfl rfl rfl ?_
    refine R.gskip rfl rfl rfl ?_
    refine R.gskip rfl rfl rfl ?_
    refine R.ev rfl (E.pickT rfl rfl) ?_
    refine R.ev rfl (E.assign rfl) ?_
    refine R.done ?_
    refine X.keep [(1, _), (3, _)] ⟨rfl, rfl, trivial⟩ ?_
    refine X.next ?_
    refine C.ctrue rfl ?_
    refine C.seq ?_
    refine C.region ?_
    refine R.ev rfl (E.assign rfl) ?_
    refine R.done ?_
    refine X.keep [(2, _)] ⟨rfl, trivial⟩ ?_
    refine X.next ?_
    refine C.ret ?_
    refine X.blockRet ?_
    refine X.thenRet ?_
    refine X.ret1 rfl rfl ?_
    exact ⟨by simp_all [HEnt.check], hs.to⟩
  · refine R.gyes rfl rfl ?_
    first | refine R.ev rfl (E.fieldAddr0 33 rfl Tryz.underlying50 rfl Tryz.sz3 rfl) ?_ | refine R.ev rfl (E.fieldAddrN 33 rfl Tryz.underlying50 rfl Tryz.sz3 rfl) ?_
    refine R.gyes rfl rfl ?_
    refine R.ev rfl (E.load1 rfl Tryz.underlying3 rfl (by first | exact hs.ldc | exact hs.ld rfl | exact hs.ld (by assumption) | exact by assumption | exact At.cellC (by assumption) | exact hs.ldK rfl)) ?_
    refine R.gyes rfl rfl ?_
    refine R.call ⟨_, _, Tryz.func57, rfl, by kernel_rfl⟩ rfl rfl (isMinute_any x.date _) ?_
    rintro _ _ ⟨rfl, rfl⟩
    refine R.gyes rfl rfl ?_
    refine R.ev rfl ((E.not rfl).isB (c := !(isMin x.date)) rfl) ?_
    refine R.ev rfl (E.pickF rfl rfl) ?_
    refine R.ev rfl (E.assign rfl) ?_
    refine R.done ?_
    refine X.keep [(1, _), (3, _)] ⟨rfl, rfl, trivial⟩ ?_
    refine X.next ?_
    refine C.cbool rfl (fun h3 => ?_) (fun h3 => ?_)
    · refine C.seq ?_
      refine C.region ?_
      refine R.ev rfl (E.assign rfl) ?_
      refine R.done ?_
      refine X.keep [(2, _)] ⟨rfl, trivial⟩ ?_
      refine X.next ?_
      refine C.ret ?_
      refine X.blockRet ?_
      refine X.thenRet ?_
      refine X.ret1 rfl rfl ?_
      exact ⟨by simp_all [HEnt.check], hs.to⟩
    · refine C.seq ?_
      refine C.region ?_
      first | refine R.ev rfl (E.fieldAddr0 34 rfl Tryz.underlying50 rfl Tryz.sz3 rfl) ?_ | refine R.ev rfl (E.fieldAddrN 34 rfl Tryz.underlying50 rfl Tryz.sz3 rfl) ?_
      refine R.ev rfl (E.load1 rfl Tryz.underlying3 rfl (by first | exact hs.ldc | exact hs.ld rfl | exact hs.ld (by assumption) | exact by assumption | exact At.cellC (by assumption) | exact hs.ldK rfl)) ?_
      refine R.ev rfl (E.neq rfl rfl) ?_
      refine R.ev rfl (E.move rfl) ?_
      refine R.split 18 rfl (fun h18 => ?_) (fun h18 => ?_)
      · refine R.gyes rfl rfl ?_
        first | refine R.ev rfl (E.fieldAddr0 34 rfl Tryz.underlying50 rfl Tryz.sz3 rfl) ?_ | refine R.ev rfl (E.fieldAddrN 34 rfl Tryz.underlying50 rfl Tryz.sz3 rfl) ?_
        refine R.gyes rfl rfl ?_
        refine R.ev rfl (E.load1 rfl Tryz.underlying3 rfl (by first | exact hs.ldc | exact hs.ld rfl | exact hs.ld (by assumption) | exact by assumption | exact At.cellC (by assumption) | exact hs.ldK rfl)) ?_
        refine R.gyes rfl rfl ?_
        refine R.ev rfl (E.neq rfl rfl) ?_
        refine R.ev rfl (E.pickT rfl rfl) ?_
        refine R.ev rfl (E.assign rfl) ?_
        refine R.done ?_
        refine X.keep [(14, _)] ⟨rfl, trivial⟩ ?_
        refine X.next ?_
        refine C.cbool rfl (fun h14 => ?_) (fun h14 => ?_)
        · refine C.seq ?_
          refine C.region ?_
          refine R.ev rfl (E.assign rfl) ?_
          refine R.done ?_
          refine X.keep [(2, _)] ⟨rfl, trivial⟩ ?_
          refine X.next ?_
          refine C.ret ?_
          refine X.blockRet ?_
          refine X.thenRet ?_
          refine X.ret1 rfl rfl ?_
          exact ⟨by simp_all [HEnt.check], hs.to⟩
        · refine C.skip ?_
          refine X.blockNormal ?_
          refine X.next ?_
          refine C.seq ?_
          refine C.region ?_
          refine R.ev rfl (E.assign rfl) ?_
          refine R.done ?_
          refine X.keep [(2, _)] ⟨rfl, trivial⟩ ?_
          refine X.next ?_
          refine C.ret ?_
          refine X.ret1 rfl rfl ?_
          exact ⟨by simp_all [HEnt.check], hs.to⟩
      · refine R.gskip rfl rfl rfl ?_
        refine R.gskip rfl rfl rfl ?_
        refine R.gskip rfl rfl rfl ?_
        refine R.ev rfl (E.pickF rfl rfl) ?_
        refine R.ev rfl (E.assign rfl) ?_
        refine R.done ?_
        refine X.keep [(14, _)] ⟨rfl, trivial⟩ ?_
        refine X.next ?_
        refine C.cfalse rfl ?_
        refine C.skip ?_
        refine X.blockNormal ?_
        refine X.next ?_
        refine C.seq ?_
        refine C.region ?_
        refine R.ev rfl (E.assign rfl) ?_
        refine R.done ?_
        refine X.keep [(2, _)] ⟨rfl, trivial⟩ ?_
        refine X.next ?_
        refine C.ret ?_
        refine X.ret1 rfl rfl ?_
        exact ⟨by simp_all [HEnt.check], hs.to⟩
theorem new_any (hs : Sat K w Hs) : Ret Tryz.prog 7 #[] w fun v w' => ∃ p F, v = ptr p ∧ HiL p ⟨[], 0⟩ F ∧ Sat K w' (F :: Hs) := by
  refine Ret.enter (n := 4) (args := []) Tryz.func7 rfl rfl ?_
  refine C.keep [] trivial ?_
  refine C.seq ?_
  refine C.region ?_
  refine R.ev rfl (E.assign rfl) ?_
  refine R.done ?_
  refine X.keep [] trivial ?_
  refine X.next ?_
  refine C.seq ?_
  refine C.region ?_
  refine R.cmake hs Tryz.underlying80 (evH) rfl ?_
  intro v1 w1 F1 m1 hs
  refine R.ev rfl (E.buildG (r := [v1, .int .i64 0]) rfl Tryz.underlying82 Tryz.zr82 Tryz.ql82 (by kernel_rfl) (by kernel_rfl) ⟨⟨_, rfl, by obtain ⟨b', _, _, rfl, _⟩ := m1.ex; rfl⟩, trivial⟩ (by obtain ⟨b', _, _, rfl, _⟩ := m1.ex; rfl)) ?_
  refine R.sboxA hs rfl rfl ?_
  intro b3 w3 hs
  refine R.ev rfl (E.assign rfl) ?_
  refine R.done ?_
  refine X.keep [(0, _)] ⟨rfl, trivial⟩ ?_
  refine X.next ?_
  refine C.ret ?_
  refine X.ret1 rfl rfl ?_
  exact ⟨b3, _, rfl, HiL.mk' m1, hs.to⟩
end Go.Proofs.YtifghjeapfijkaaGreatDoor.Hist
