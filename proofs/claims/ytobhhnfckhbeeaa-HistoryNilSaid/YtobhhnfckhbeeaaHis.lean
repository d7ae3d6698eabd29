/-
  package history: the entries as a list of pairs; the methods as plain functions.
-/
import Derived.Test.YtobhhnfckhbeeaaMapOps
import Derived.Test.YtobhhnfckhbeeaaRng
import Derived.Test.YtobhhnfckhbeeaaTypes
import Derived.Test.YtobhhnfckhbeeaaByt
namespace Go.Proofs.Ytobhhnfckhbeeaa
open Go.Eng Go.RowKit

@[reducible] def ptr (p : Nat) : Value := .pointer (some ⟨p, 0, none⟩)
abbrev ekI (a : Vec 32) : Value := .agg (encV a).toArray
instance : KeyEnc Try.prog 27 ekI := KeyEnc.of (enc := encV) Try.lv27 (by decide) Try.underlying27 rfl (fun a => fitsN a.2) cellsEq_vec
structure HEnt where
  id : Vec 32
  arr : Int
  date : Int
  state : Int
  perm : Bool
deriving DecidableEq
def encH (o : HEnt) : List Value := o.id.1.map ub ++ [.int .i64 o.arr, .int .i64 o.date, .int .i64 o.state, .bool o.perm]
abbrev evH (o : HEnt) : Value := .agg (encH o).toArray
def vz : Vec 32 := ⟨List.replicate 32 0, rfl⟩
def hz : HEnt := ⟨vz, 0, 0, 0, false⟩
instance : Inhabited HEnt := ⟨hz⟩
instance {o : HEnt} : CellOf (encH o) 32 (.int .i64 o.arr) := ⟨by simp [encH, o.id.2]⟩
instance {o : HEnt} : CellOf (encH o) 33 (.int .i64 o.date) := ⟨by simp [encH, o.id.2]⟩
instance {o : HEnt} : CellOf (encH o) 34 (.int .i64 o.state) := ⟨by simp [encH, o.id.2]⟩
instance {o : HEnt} : CellOf (encH o) 35 (.bool o.perm) := ⟨by simp [encH, o.id.2]⟩
instance {o : HEnt} : PartOf (encH o) 0 32 (o.id.1.map ub) := PartOf.mk' (c1 := []) rfl rfl (encV_len _)
instance : Enc encH 36 := ⟨fun o => by simp [encH, o.id.2], fun o u hu => by
  simp only [encH, List.mem_append, List.mem_cons, List.not_mem_nil, or_false] at hu
  rcases hu with hu | rfl | rfl | rfl | rfl
  · exact ub_all _ u hu
  · rfl
  · rfl
  · rfl
  · rfl⟩
theorem encH_fits (o : HEnt) (_ : (encH o).length = 36) : fitsAll (List.replicate 32 (lInt .u8) ++ (List.replicate 3 (lInt .i64) ++ [lBool])) (encH o) = true := fitsAll_mk (fitsN o.id.2) rfl
theorem encH_eq {o o' : HEnt} (_ : (encH o).length = 36) (_ : (encH o').length = 36) : cellsEq (encH o) (encH o') = decide (o = o') := by
  rw [encH, encH, cellsEq_app _ _ _ _ (by simp [o.id.2, o'.id.2]), cellsEq_vec, Bool.eq_iff_iff]
  cases o; cases o'; simp [cellsEq, cellEq]
instance : ZeroEnc Try.prog 29 evH hz := ⟨Try.zr29⟩
abbrev HMap := List (Vec 32 × HEnt)
/-- a history -/
structure Hi where
  M : HMap
  cut : Int
class HiL (p : Nat) (s : outParam Hi) (F : outParam Hl) : Prop where
  ex : ∃ m G, F = row p 88 [m, .int .i64 s.cut] ++ G ∧ MapL ekI evH m s.M G
class HiIn (p : Nat) (s : outParam Hi) (Hs : List Hl) : Prop where
  ex : ∃ m G, InH p (.cells [m, .int .i64 s.cut].toArray 88 (0, 0)) Hs ∧ MapL ekI evH m s.M G ∧ FIn G Hs
instance {p : Nat} {s : Hi} {A : Hl} {Hs : List Hl} [h : HiIn p s Hs] : HiIn p s (A :: Hs) := ⟨by
  obtain ⟨m, G, h1, h2, h3⟩ := h.ex
  exact ⟨m, G, inferInstance, h2, inferInstance⟩⟩
instance {p : Nat} {s : Hi} {F : Hl} {Hs : List Hl} [h : HiL p s F] [k : FIn F Hs] : HiIn p s Hs := ⟨by
  obtain ⟨m, G, rfl, h1⟩ := h.ex
  exact ⟨m, G, k.app.1.row, h1, k.app.2⟩⟩
theorem HiIn.parts {p : Nat} {s : Hi} {m : Value} {G : Hl} {Hs : List Hl} [h : InH p (.cells [m, .int .i64 s.cut].toArray 88 (0, 0)) Hs] [r : MapL ekI evH m s.M G] [k : FIn G Hs] : HiIn p s Hs := ⟨⟨m, G, h, r, k⟩⟩
theorem HiL.mk' {p : Nat} {c : Int} {m : Value} {M : HMap} {G : Hl} (k : MapL ekI evH m M G) : HiL p ⟨M, c⟩ (row p 88 [m, .int .i64 c] ++ G) := ⟨m, G, rfl, k⟩

variable {K : Kn} {Hs Rs : List Hl} {F : Hl} {w : World} {p : Nat} {s : Hi}
def isMin (n : Int) : Bool := decide (0 ≤ n) && decide (n ≤ 105190559)
def old (d n : Int) : Bool := decide (d < n - 20160)
theorem isMinute_any (n : Int) (w : World) : Ret Try.prog 41 #[.int .i64 n] w fun v w' => v = .bool (isMin n) ∧ w = w' := by
  refine Ret.enter (n := 9) (args := [.int .i64 n]) Try.func41 rfl rfl ?_
  refine C.keep [(0, _)] ⟨rfl, trivial⟩ ?_
  refine C.seq ?_
  refine C.region ?_
  refine R.ev rfl (E.assign rfl) ?_
  refine R.done ?_
  refine X.keep [(0, _)] ⟨rfl, trivial⟩ ?_
  refine X.next ?_
  refine C.seq ?_
  refine C.region ?_
  refine R.ev rfl (E.move rfl) ?_
  refine R.ev rfl (E.geq rfl rfl) ?_
  refine R.ev rfl (E.move rfl) ?_
  refine R.split 5 rfl (fun h5 => ?_) (fun h5 => ?_)
  · refine R.gyes rfl rfl ?_
    refine R.ev rfl (E.move rfl) ?_
    refine R.gyes rfl rfl ?_
    refine R.ev rfl (E.leq rfl rfl) ?_
    refine R.ev rfl (E.pickT rfl rfl) ?_
    refine R.ev rfl (E.assign rfl) ?_
    refine R.done ?_
    refine X.keep [(2, _)] ⟨rfl, trivial⟩ ?_
    refine X.next ?_
    refine C.ret ?_
    refine X.ret1 rfl rfl ?_
    exact ⟨by first | (simp_all [isMin]; done) | (simp_all [isMin]; omega), rfl⟩
  · refine R.gskip rfl rfl rfl ?_
    refine R.gskip rfl rfl rfl ?_
    refine R.ev rfl (E.pickF rfl rfl) ?_
    refine R.ev rfl (E.assign rfl) ?_
    refine R.done ?_
    refine X.keep [(2, _)] ⟨rfl, trivial⟩ ?_
    refine X.next ?_
    refine C.ret ?_
    refine X.ret1 rfl rfl ?_
    exact ⟨by first | (simp_all [isMin]; done) | (simp_all [isMin]; omega), rfl⟩
theorem tooOld_any (d n : Int) (w : World) (hn : -9223372036854775808 ≤ n - 20160 ∧ n ≤ 9223372036854775807) : Ret Try.prog 46 #[.int .i64 d, .int .i64 n] w fun v w' => v = .bool (old d n) ∧ w = w' := by
  refine Ret.enter (n := 9) (args := [.int .i64 d, .int .i64 n]) Try.func46 rfl rfl ?_
  refine C.keep [(0, _), (1, _)] ⟨rfl, rfl, trivial⟩ ?_
  refine C.seq ?_
  refine C.region ?_
  refine R.ev rfl (E.assign rfl) ?_
  refine R.done ?_
  refine X.keep [(0, _), (1, _)] ⟨rfl, rfl, trivial⟩ ?_
  refine X.next ?_
  refine C.seq ?_
  refine C.region ?_
  refine R.ev rfl (E.move rfl) ?_
  refine R.ev rfl (E.move rfl) ?_
  refine R.ev rfl (E.sub rfl rfl (by omega) (by omega)) ?_
  refine R.ev rfl (E.lss rfl rfl) ?_
  refine R.ev rfl (E.assign rfl) ?_
  refine R.done ?_
  refine X.keep [(4, _)] ⟨rfl, trivial⟩ ?_
  refine X.next ?_
  refine C.ret ?_
  refine X.ret1 rfl rfl ?_
  exact ⟨rfl, rfl⟩
def HEnt.check (x : HEnt) : Int := if isMin x.arr = false ∨ isMin x.date = false then 13 else if x.state ≠ 0 ∧ x.state ≠ 1 then 11 else 0
theorem check_any (x : HEnt) (hs : Sat K w Hs) : Ret Try.prog 15 #[evH x] w fun v w' => v = .int .i64 x.check ∧ Sat K w' Hs := by
  refine Ret.enter (n := 23) (args := [evH x]) Try.func15 rfl rfl ?_
  refine C.keep [(0, _)] ⟨rfl, trivial⟩ ?_
  refine C.seq ?_
  refine C.region ?_
  refine R.sboxA hs rfl rfl ?_
  intro b1 w1 hs
  refine R.ev rfl (E.assign rfl) ?_
  refine R.done ?_
  refine X.keep [(1, _)] ⟨rfl, trivial⟩ ?_
  refine X.next ?_
  refine C.seq ?_
  refine C.block ?_
  refine C.seq ?_
  refine C.region ?_
  first | refine R.ev rfl (E.fieldAddr0 32 rfl Try.underlying29 rfl Try.sz3 rfl) ?_ | refine R.ev rfl (E.fieldAddrN 32 rfl Try.underlying29 rfl Try.sz3 rfl) ?_
  refine R.ev rfl (E.load1 rfl Try.underlying3 rfl (by first | exact hs.ldc | exact hs.ld rfl | exact hs.ld (by assumption) | exact by assumption | exact At.cellC (by assumption))) ?_
  refine R.call ⟨_, _, Try.func41, rfl, by kernel_rfl⟩ rfl rfl (isMinute_any x.arr _) ?_
  rintro _ _ ⟨rfl, rfl⟩
  refine R.ev rfl ((E.not rfl).isB (c := !(isMin x.arr)) rfl) ?_
  refine R.ev rfl (E.move rfl) ?_
  refine R.split 8 rfl (fun h8 => ?_) (fun h8 => ?_)
  · refine R.gskip rfl rfl rfl ?_
    refine R.gskip rfl rfl rfl ?_
    refine R.gskip rfl rfl rfl ?_
    refine R.gskip rfl rfl rfl ?_
    refine R.ev rfl (E.pickT rfl rfl) ?_
    refine R.ev rfl (E.assign rfl) ?_
    refine R.done ?_
    refine X.keep [(1, _), (3, _)] ⟨rfl, rfl, trivial⟩ ?_
    refine X.next ?_
    refine C.ctrue rfl ?_
    refine C.seq ?_
    refine C.region ?_
    refine R.ev rfl (E.assign rfl) ?_
    refine R.done ?_
    refine X.keep [(2, _)] ⟨rfl, trivial⟩ ?_
    refine X.next ?_
    refine C.ret ?_
    refine X.blockRet ?_
    refine X.thenRet ?_
    refine X.ret1 rfl rfl ?_
    exact ⟨by simp_all [HEnt.check], hs.to⟩
  · refine R.gyes rfl rfl ?_
    first | refine R.ev rfl (E.fieldAddr0 33 rfl Try.underlying29 rfl Try.sz3 rfl) ?_ | refine R.ev rfl (E.fieldAddrN 33 rfl Try.underlying29 rfl Try.sz3 rfl) ?_
    refine R.gyes rfl rfl ?_
    refine R.ev rfl (E.load1 rfl Try.underlying3 rfl (by first | exact hs.ldc | exact hs.ld rfl | exact hs.ld (by assumption) | exact by assumption | exact At.cellC (by assumption))) ?_
    refine R.gyes rfl rfl ?_
    refine R.call ⟨_, _, Try.func41, rfl, by kernel_rfl⟩ rfl rfl (isMinute_any x.date _) ?_
    rintro _ _ ⟨rfl, rfl⟩
    refine R.gyes rfl rfl ?_
    refine R.ev rfl ((E.not rfl).isB (c := !(isMin x.date)) rfl) ?_
    refine R.ev rfl (E.pickF rfl rfl) ?_
    refine R.ev rfl (E.assign rfl) ?_
    refine R.done ?_
    refine X.keep [(1, _), (3, _)] ⟨rfl, rfl, trivial⟩ ?_
    refine X.next ?_
    refine C.cbool rfl (fun h3 => ?_) (fun h3 => ?_)
    · refine C.seq ?_
      refine C.region ?_
      refine R.ev rfl (E.assign rfl) ?_
      refine R.done ?_
      refine X.keep [(2, _)] ⟨rfl, trivial⟩ ?_
      refine X.next ?_
      refine C.ret ?_
      refine X.blockRet ?_
      refine X.thenRet ?_
      refine X.ret1 rfl rfl ?_
      exact ⟨by simp_all [HEnt.check], hs.to⟩
    · refine C.seq ?_
      refine C.region ?_
      first | refine R.ev rfl (E.fieldAddr0 34 rfl Try.underlying29 rfl Try.sz3 rfl) ?_ | refine R.ev rfl (E.fieldAddrN 34 rfl Try.underlying29 rfl Try.sz3 rfl) ?_
      refine R.ev rfl (E.load1 rfl Try.underlying3 rfl (by first | exact hs.ldc | exact hs.ld rfl | exact hs.ld (by assumption) | exact by assumption | exact At.cellC (by assumption))) ?_
      refine R.ev rfl (E.neq rfl rfl) ?_
      refine R.ev rfl (E.move rfl) ?_
      refine R.split 18 rfl (fun h18 => ?_) (fun h18 => ?_)
      · refine R.gyes rfl rfl ?_
        first | refine R.ev rfl (E.fieldAddr0 34 rfl Try.underlying29 rfl Try.sz3 rfl) ?_ | refine R.ev rfl (E.fieldAddrN 34 rfl Try.underlying29 rfl Try.sz3 rfl) ?_
        refine R.gyes rfl rfl ?_
        refine R.ev rfl (E.load1 rfl Try.underlying3 rfl (by first | exact hs.ldc | exact hs.ld rfl | exact hs.ld (by assumption) | exact by assumption | exact At.cellC (by assumption))) ?_
        refine R.gyes rfl rfl ?_
        refine R.ev rfl (E.neq rfl rfl) ?_
        refine R.ev rfl (E.pickT rfl rfl) ?_
        refine R.ev rfl (E.assign rfl) ?_
        refine R.done ?_
        refine X.keep [(14, _)] ⟨rfl, trivial⟩ ?_
        refine X.next ?_
        refine C.cbool rfl (fun h14 => ?_) (fun h14 => ?_)
        · refine C.seq ?_
          refine C.region ?_
          refine R.ev rfl (E.assign rfl) ?_
          refine R.done ?_
          refine X.keep [(2, _)] ⟨rfl, trivial⟩ ?_
          refine X.next ?_
          refine C.ret ?_
          refine X.blockRet ?_
          refine X.thenRet ?_
          refine X.ret1 rfl rfl ?_
          exact ⟨by simp_all [HEnt.check], hs.to⟩
        · refine C.skip ?_
          refine X.blockNormal ?_
          refine X.next ?_
          refine C.seq ?_
          refine C.region ?_
          refine R.ev rfl (E.assign rfl) ?_
          refine R.done ?_
          refine X.keep [(2, _)] ⟨rfl, trivial⟩ ?_
          refine X.next ?_
          refine C.ret ?_
          refine X.ret1 rfl rfl ?_
          exact ⟨by simp_all [HEnt.check], hs.to⟩
      · refine R.gskip rfl rfl rfl ?_
        refine R.gskip rfl rfl rfl ?_
        refine R.gskip rfl rfl rfl ?_
        refine R.ev rfl (E.pickF rfl rfl) ?_
        refine R.ev rfl (E.assign rfl) ?_
        refine R.done ?_
        refine X.keep [(14, _)] ⟨rfl, trivial⟩ ?_
        refine X.next ?_
        refine C.cfalse rfl ?_
        refine C.skip ?_
        refine X.blockNormal ?_
        refine X.next ?_
        refine C.seq ?_
        refine C.region ?_
        refine R.ev rfl (E.assign rfl) ?_
        refine R.done ?_
        refine X.keep [(2, _)] ⟨rfl, trivial⟩ ?_
        refine X.next ?_
        refine C.ret ?_
        refine X.ret1 rfl rfl ?_
        exact ⟨by simp_all [HEnt.check], hs.to⟩
theorem new_any (hs : Sat K w Hs) : Ret Try.prog 40 #[] w fun v w' => ∃ p F, v = ptr p ∧ HiL p ⟨[], 0⟩ F ∧ Sat K w' (F :: Hs) := by
  refine Ret.enter (n := 4) (args := []) Try.func40 rfl rfl ?_
  refine C.keep [] trivial ?_
  refine C.seq ?_
  refine C.region ?_
  refine R.ev rfl (E.assign rfl) ?_
  refine R.done ?_
  refine X.keep [] trivial ?_
  refine X.next ?_
  refine C.seq ?_
  refine C.region ?_
  refine R.cmake hs Try.underlying86 (evH) rfl ?_
  intro v1 w1 F1 m1 hs
  refine R.ev rfl (E.buildG (r := [v1, .int .i64 0]) rfl Try.underlying88 Try.zr88 Try.ql88 (by kernel_rfl) (by kernel_rfl) ⟨⟨_, rfl, by obtain ⟨b', _, _, rfl, _⟩ := m1.ex; rfl⟩, trivial⟩ (by obtain ⟨b', _, _, rfl, _⟩ := m1.ex; rfl)) ?_
  refine R.sboxA hs rfl rfl ?_
  intro b3 w3 hs
  refine R.ev rfl (E.assign rfl) ?_
  refine R.done ?_
  refine X.keep [(0, _)] ⟨rfl, trivial⟩ ?_
  refine X.next ?_
  refine C.ret ?_
  refine X.ret1 rfl rfl ?_
  exact ⟨b3, _, rfl, HiL.mk' m1, hs.to⟩
theorem len_any (hs : Sat K w Hs) [hw : HiIn p s Hs] : Ret Try.prog 25 #[ptr p] w fun r w' => r = .int .i64 s.M.length ∧ Sat K w' Hs := by
  obtain ⟨m, G, _, hm, _⟩ := hw.ex
  refine Ret.enter (n := 10) (args := [ptr p]) Try.func25 rfl rfl ?_
  refine C.keep [(0, _)] ⟨rfl, trivial⟩ ?_
  refine C.seq ?_
  refine C.region ?_
  refine R.ev rfl (E.assign rfl) ?_
  refine R.done ?_
  refine X.keep [(0, _)] ⟨rfl, trivial⟩ ?_
  refine X.next ?_
  refine C.seq ?_
  refine C.seq ?_
  refine C.region ?_
  refine R.ev rfl (E.move rfl) ?_
  refine R.ev rfl (E.eqlNilF rfl rfl Try.underlying35) ?_
  refine R.done ?_
  refine X.keep [(0, _), (4, _)] ⟨rfl, rfl, trivial⟩ ?_
  refine X.next ?_
  refine C.cfalse rfl ?_
  refine C.skip ?_
  refine X.next ?_
  refine C.seq ?_
  refine C.region ?_
  refine R.ev rfl (E.move rfl) ?_
  refine R.ev rfl (E.nilCheck rfl) ?_
  first | refine R.ev rfl (E.fieldAddr0 0 rfl Try.underlying88 rfl Try.sz86 rfl) ?_ | refine R.ev rfl (E.fieldAddrN 0 rfl Try.underlying88 rfl Try.sz86 rfl) ?_
  refine R.ev rfl (E.load1 rfl Try.underlying86 rfl (by first | exact hs.ldc | exact hs.ld rfl | exact hs.ld (by assumption) | exact by assumption | exact At.cellC (by assumption))) ?_
  refine R.ev rfl (E.lenM hs rfl Try.underlying86) ?_
  refine R.ev rfl (E.assign rfl) ?_
  refine R.done ?_
  refine X.keep [(2, _)] ⟨rfl, trivial⟩ ?_
  refine X.next ?_
  refine C.ret ?_
  refine X.ret1 rfl rfl ?_
  exact ⟨rfl, hs⟩
theorem cutoff_any (hs : Sat K w Hs) [hw : HiIn p s Hs] : Ret Try.prog 26 #[ptr p] w fun r w' => r = .int .i64 s.cut ∧ Sat K w' Hs := by
  obtain ⟨m, G, _, hm, _⟩ := hw.ex
  refine Ret.enter (n := 9) (args := [ptr p]) Try.func26 rfl rfl ?_
  refine C.keep [(0, _)] ⟨rfl, trivial⟩ ?_
  refine C.seq ?_
  refine C.region ?_
  refine R.ev rfl (E.assign rfl) ?_
  refine R.done ?_
  refine X.keep [(0, _)] ⟨rfl, trivial⟩ ?_
  refine X.next ?_
  refine C.seq ?_
  refine C.seq ?_
  refine C.region ?_
  refine R.ev rfl (E.move rfl) ?_
  refine R.ev rfl (E.eqlNilF rfl rfl Try.underlying35) ?_
  refine R.done ?_
  refine X.keep [(0, _), (4, _)] ⟨rfl, rfl, trivial⟩ ?_
  refine X.next ?_
  refine C.cfalse rfl ?_
  refine C.skip ?_
  refine X.next ?_
  refine C.seq ?_
  refine C.region ?_
  refine R.ev rfl (E.move rfl) ?_
  refine R.ev rfl (E.nilCheck rfl) ?_
  first | refine R.ev rfl (E.fieldAddr0 1 rfl Try.underlying88 rfl Try.sz3 rfl) ?_ | refine R.ev rfl (E.fieldAddrN 1 rfl Try.underlying88 rfl Try.sz3 rfl) ?_
  refine R.ev rfl (E.load1 rfl Try.underlying3 rfl (by first | exact hs.ldc | exact hs.ld rfl | exact hs.ld (by assumption) | exact by assumption | exact At.cellC (by assumption))) ?_
  refine R.ev rfl (E.assign rfl) ?_
  refine R.done ?_
  refine X.keep [(2, _)] ⟨rfl, trivial⟩ ?_
  refine X.next ?_
  refine C.ret ?_
  refine X.ret1 rfl rfl ?_
  exact ⟨rfl, hs⟩
theorem get_any (a : Vec 32) (hs : Sat K w Hs) [hw : HiIn p s Hs] : Ret Try.prog 29 #[ptr p, idV a.1] w fun r w' => r = .tuple #[evH ((lkM s.M a).getD hz), .bool (lkM s.M a).isSome] ∧ Sat K w' Hs := by
  obtain ⟨m, G, _, hm, _⟩ := hw.ex
  have e1 := encV_len a
  refine Ret.enter (n := 22) (args := [ptr p, idV a.1]) Try.func29 rfl rfl ?_
  refine C.keep [(0, _), (1, _)] ⟨rfl, rfl, trivial⟩ ?_
  refine C.seq ?_
  refine C.region ?_
  refine R.sboxA hs rfl rfl ?_
  intro b3 w3 hs
  refine R.sallocA hs Try.zr29 rfl ?_
  intro b4 w4 hs
  refine R.ev rfl (E.assign rfl) ?_
  refine R.done ?_
  refine X.keep [(0, _), (3, _), (4, _)] ⟨rfl, rfl, rfl, trivial⟩ ?_
  refine X.next ?_
  refine C.seq ?_
  refine C.seq ?_
  refine C.region ?_
  refine R.ev rfl (E.move rfl) ?_
  refine R.ev rfl (E.eqlNilF rfl rfl Try.underlying35) ?_
  refine R.done ?_
  refine X.keep [(0, _), (3, _), (4, _), (9, _)] ⟨rfl, rfl, rfl, rfl, trivial⟩ ?_
  refine X.next ?_
  refine C.cfalse rfl ?_
  refine C.skip ?_
  refine X.next ?_
  refine C.seq ?_
  refine C.drawn (SatS hs) ([3, 4, 5], [0, 1, 2, 6, 7, 8, 11]) (by kernel_rfl) ?_
  have hs := hs.drew
  refine D.evP 0 rfl (by kernel_rfl) rfl (fun _ => hs.to) (fun _ => E.move rfl) ?_
  refine D.evP 1 rfl (by kernel_rfl) rfl (fun _ => hs.to) (fun _ => E.nilCheck rfl) ?_
  first | refine D.evP 2 rfl (by kernel_rfl) rfl (fun _ => hs.to) (fun _ => E.fieldAddr0 0 rfl Try.underlying88 rfl Try.sz86 rfl) ?_ | refine D.evP 2 rfl (by kernel_rfl) rfl (fun _ => hs.to) (fun _ => E.fieldAddrN 0 rfl Try.underlying88 rfl Try.sz86 rfl) ?_
  refine D.ev 3 rfl (by kernel_rfl) rfl hs.to (fun _ hS => E.load1 rfl Try.underlying86 rfl (by first | exact hS.ldc | exact hS.ld rfl | exact hS.ld (by assumption) | exact by assumption | exact At.cellC (by assumption) | exact At.cellC ((by assumption : ∀ w', Sat _ w' _ → At w' _ _ _) _ hS) | exact (by assumption : ∀ w', Sat _ w' _ → World.cell? w' _ = some _) _ hS)) ?_
  refine D.ev 4 rfl (by kernel_rfl) rfl hs.to (fun _ hS => E.loadRowC rfl Try.underlying27 rfl Try.sz27 (by first | exact ⟨hS.ldA, by first | rfl | assumption | exact encV_len _ | exact Enc.len _ | exact len_ub (by assumption)⟩ | exact ⟨hS.ldP rfl, by first | rfl | assumption | exact encV_len _ | exact Enc.len _ | exact len_ub (by assumption)⟩ | exact ⟨hS.ldM rfl rfl, by first | rfl | assumption | exact encV_len _ | exact Enc.len _ | exact len_ub (by assumption)⟩ | exact ⟨hS.ldM (by assumption) (by first | rfl | assumption), by first | rfl | assumption | exact encV_len _ | exact Enc.len _ | exact len_ub (by assumption)⟩ | exact ⟨by assumption, by first | rfl | assumption | exact encV_len _ | exact Enc.len _ | exact len_ub (by assumption)⟩ | exact ⟨(by assumption : ∀ w', Sat _ w' _ → At w' _ _ _) _ hS, by first | rfl | assumption | exact encV_len _ | exact Enc.len _ | exact len_ub (by assumption)⟩ | exact hS.ldp | exact At.partC (by assumption) | exact At.partC ((by assumption : ∀ w', Sat _ w' _ → At w' _ _ _) _ hS))) ?_
  refine D.ev 5 rfl (by kernel_rfl) rfl hs.to (fun _ hS => E.lookupDok hS rfl rfl Try.underlying86 _ (by rfl)) ?_
  refine D.evP 6 rfl (by kernel_rfl) rfl (fun _ => hs.to) (fun _ => E.move rfl) ?_
  refine D.evP 7 rfl (by kernel_rfl) rfl (fun _ => hs.to) (fun _ => E.extract rfl rfl) ?_
  refine D.evP 8 rfl (by kernel_rfl) rfl (fun _ => hs.to) (fun _ => E.extract rfl rfl) ?_
  refine D.act 9 rfl (by kernel_rfl) ?_
  refine R.sallocA hs Try.zr29 rfl ?_
  intro b6 w6 hs
  refine D.back hs.to ?_
  refine D.act 10 rfl (by kernel_rfl) ?_
  first | refine R.cstoreAll hs rfl rfl Try.sz29 (by first | rfl | assumption | exact encV_len _ | exact Enc.len _ | exact len_ub (by assumption) | simp [*]) (by first | rfl | assumption | exact encV_len _ | exact Enc.len _ | exact len_ub (by assumption) | simp [*]) (by first | assumption | exact OneL.all | exact Enc.one _ | exact ub_all _ | (repeat' (first | refine List.forall_mem_cons.2 ⟨?_, ?_⟩ | exact List.forall_mem_nil _ | rfl | exact OneC.one | exact KRow.oneC' (by assumption)))) ?_ | refine R.cstore hs rfl rfl Try.sz29 (by first | rfl | assumption | exact encV_len _ | exact Enc.len _ | exact len_ub (by assumption) | simp [*]) (by simp [*]) (by first | assumption | exact OneL.all | exact Enc.one _ | exact ub_all _ | (repeat' (first | refine List.forall_mem_cons.2 ⟨?_, ?_⟩ | exact List.forall_mem_nil _ | rfl | exact OneC.one | exact KRow.oneC' (by assumption)))) ?_
  intro w3_10 hs
  try simp only [List.set_cons_zero, List.set_cons_succ] at hs
  refine D.backT (by kernel_rfl) ?_
  refine D.evP 11 rfl (by kernel_rfl) rfl (np (by kernel_rfl)) (fun _ => E.assign rfl) ?_
  refine D.done rfl (by kernel_rfl) ?_
  refine X.keep [(4, _), (6, _), (7, _)] ⟨rfl, rfl, rfl, trivial⟩ ?_
  refine X.next ?_
  refine C.seq ?_
  refine C.region ?_
  refine R.ev rfl (E.loadRowC rfl Try.underlying29 rfl Try.sz29 (by first | exact ⟨hs.ldA, by first | rfl | assumption | exact encV_len _ | exact Enc.len _ | exact len_ub (by assumption)⟩ | exact ⟨hs.ldP rfl, by first | rfl | assumption | exact encV_len _ | exact Enc.len _ | exact len_ub (by assumption)⟩ | exact ⟨hs.ldM rfl rfl, by first | rfl | assumption | exact encV_len _ | exact Enc.len _ | exact len_ub (by assumption)⟩ | exact ⟨hs.ldM (by assumption) (by first | rfl | assumption), by first | rfl | assumption | exact encV_len _ | exact Enc.len _ | exact len_ub (by assumption)⟩ | exact ⟨by assumption, by first | rfl | assumption | exact encV_len _ | exact Enc.len _ | exact len_ub (by assumption)⟩ | exact hs.ldp | exact At.partC (by assumption))) ?_
  refine R.ev rfl (E.move rfl) ?_
  first | refine R.cstoreAll hs rfl rfl Try.sz29 (by first | rfl | assumption | exact encV_len _ | exact Enc.len _ | exact len_ub (by assumption) | simp [*]) (by first | rfl | assumption | exact encV_len _ | exact Enc.len _ | exact len_ub (by assumption) | simp [*]) (by first | assumption | exact OneL.all | exact Enc.one _ | exact ub_all _ | (repeat' (first | refine List.forall_mem_cons.2 ⟨?_, ?_⟩ | exact List.forall_mem_nil _ | rfl | exact OneC.one | exact KRow.oneC' (by assumption)))) ?_ | refine R.cstore hs rfl rfl Try.sz29 (by first | rfl | assumption | exact encV_len _ | exact Enc.len _ | exact len_ub (by assumption) | simp [*]) (by simp [*]) (by first | assumption | exact OneL.all | exact Enc.one _ | exact ub_all _ | (repeat' (first | refine List.forall_mem_cons.2 ⟨?_, ?_⟩ | exact List.forall_mem_nil _ | rfl | exact OneC.one | exact KRow.oneC' (by assumption)))) ?_
  intro w4_2 hs
  try simp only [List.set_cons_zero, List.set_cons_succ] at hs
  refine R.ev rfl (E.assign rfl) ?_
  refine R.done ?_
  refine X.keep [(4, _), (5, _)] ⟨rfl, rfl, trivial⟩ ?_
  refine X.next ?_
  refine C.ret ?_
  refine X.resCT rfl rfl Try.underlying29 rfl Try.sz29 (by first | exact ⟨hs.ldA, by first | rfl | assumption | exact encV_len _ | exact Enc.len _ | exact len_ub (by assumption)⟩ | exact ⟨hs.ldP rfl, by first | rfl | assumption | exact encV_len _ | exact Enc.len _ | exact len_ub (by assumption)⟩ | exact ⟨by assumption, by first | rfl | assumption | exact encV_len _ | exact Enc.len _ | exact len_ub (by assumption)⟩) rfl ?_
  exact ⟨rfl, hs.to⟩
end Go.Proofs.Ytobhhnfckhbeeaa
