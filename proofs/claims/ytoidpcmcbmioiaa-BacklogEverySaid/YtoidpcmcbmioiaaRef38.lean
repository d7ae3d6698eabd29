/-
  package bulletinref38: the reference as plain functions on a list of entries.
-/
import Derived.Test.YtoidpcmcbmioiaaBklI
namespace Go.Proofs.Ytoidpcmcbmioiaa
open Go.Eng Go.RowKit

structure RE where
  id : Vec 32
  due : Int
  tries : Int
  out : Bool
deriving DecidableEq
def encRE (o : RE) : List Value := o.id.1.map ub ++ [.int .i64 o.due, .int .i64 o.tries, .bool o.out]
instance {o : RE} : CellOf (encRE o) 34 (.bool o.out) := ⟨by simp [encRE, o.id.2]⟩
instance {o : RE} : CellOf (encRE o) 33 (.int .i64 o.tries) := ⟨by simp [encRE, o.id.2]⟩
instance {o : RE} : CellOf (encRE o) 32 (.int .i64 o.due) := ⟨by simp [encRE, o.id.2]⟩
instance {o : RE} : PartOf (encRE o) 0 32 (o.id.1.map ub) := PartOf.mk' (c1 := []) rfl rfl (encV_len _)
instance : Enc encRE 35 := ⟨fun o => by simp [encRE, o.id.2], fun o u hu => by
  simp only [encRE, List.mem_append, List.mem_cons, List.not_mem_nil, or_false] at hu
  rcases hu with hu | rfl | rfl | rfl
  · exact ub_all _ u hu
  · rfl
  · rfl
  · rfl⟩
structure RB where
  cap : Int
  wait : Int
  inc : Bool
  L : List RE
abbrev RB.v (s : RB) (v : Value) : Value := .agg #[.int .i64 s.cap, .int .i64 s.wait, .bool s.inc, v]
def rIs (a : Vec 32) : RE → Bool := fun o => decide (o.id = a)
def rHas (a : Vec 32) (L : List RE) : Bool := L.any (rIs a)
theorem rIdx_ge {a : Vec 32} {L : List RE} : decide (0 ≤ idxP (rIs a) L) = rHas a L := by
  rw [Bool.eq_iff_iff, decide_eq_true_eq, idxP_nonneg_iff, rHas, List.any_eq_true]
theorem rIdx_lt {a : Vec 32} {L : List RE} : decide (idxP (rIs a) L < 0) = !rHas a L := by
  rw [← rIdx_ge, Bool.eq_iff_iff]; simp
/-- a backlog of the reference, frozen, and other results -/
def RPost (K : Kn) (Hs : List Hl) (s : RB) (f : Value → Value) (r : Value) (w' : World) : Prop := ∃ K' v', r = f (s.v v') ∧ KLe K K' ∧ KRow encRE 35 K' v' s.L ∧ Sat K' w' Hs
theorem RPost.same {K : Kn} {Hs : List Hl} {s : RB} {f : Value → Value} {v : Value} {w : World} (h : KRow encRE 35 K v s.L) (hs : Sat K w Hs) : RPost K Hs s f (f (s.v v)) w := ⟨K, v, rfl, KLe.refl K, h, hs⟩
theorem RPost.new {K : Kn} {Hs : List Hl} {s : RB} {f : Value → Value} {v : Value} {w : World} {F : Hl} {e : TypeId} (h : RowL e encRE 35 v s.L F) (hs : Sat K w (F :: Hs)) : RPost K Hs s f (f (s.v v)) w := by
  obtain ⟨K1, hk1, r1, hs1⟩ := h.freezeK hs
  exact ⟨K1, v, rfl, hk1, r1, hs1⟩
variable {K : Kn} {Hs Rs : List Hl} {F : Hl} {w : World} {s : RB} {v : Value}
theorem rminute_any (n : Int) (w : World) : Ret Try.prog 62 #[.int .i64 n] w fun v w' => v = .bool (isMin n) ∧ w = w' := by
  refine Ret.enter (n := 9) (args := [.int .i64 n]) Try.func62 rfl rfl ?_
  refine C.keep [(0, _)] ⟨rfl, trivial⟩ ?_
  refine C.seq ?_
  refine C.region ?_
  refine R.ev rfl (E.assign rfl) ?_
  refine R.done ?_
  refine X.keep [(0, _)] ⟨rfl, trivial⟩ ?_
  refine X.next ?_
  refine C.seq ?_
  refine C.region ?_
  refine R.ev rfl (E.move rfl) ?_
  refine R.ev rfl (E.geq rfl rfl) ?_
  refine R.ev rfl (E.move rfl) ?_
  refine R.split 5 rfl (fun h5 => ?_) (fun h5 => ?_)
  · refine R.gyes rfl rfl ?_
    refine R.ev rfl (E.move rfl) ?_
    refine R.gyes rfl rfl ?_
    refine R.ev rfl (E.leq rfl rfl) ?_
    refine R.ev rfl (E.pickT rfl rfl) ?_
    refine R.ev rfl (E.assign rfl) ?_
    refine R.done ?_
    refine X.keep [(2, _)] ⟨rfl, trivial⟩ ?_
    refine X.next ?_
    refine C.ret ?_
    refine X.ret1 rfl rfl ?_
    exact ⟨by simp_all [isMin]; try omega, rfl⟩
  · refine R.gskip rfl rfl rfl ?_
    refine R.gskip rfl rfl rfl ?_
    refine R.ev rfl (E.pickF rfl rfl) ?_
    refine R.ev rfl (E.assign rfl) ?_
    refine R.done ?_
    refine X.keep [(2, _)] ⟨rfl, trivial⟩ ?_
    refine X.next ?_
    refine C.ret ?_
    refine X.ret1 rfl rfl ?_
    exact ⟨by simp_all [isMin]; try omega, rfl⟩
theorem with_any (s : RB) (v v' : Value) (hv : v.oneCell' = true) (hv' : v'.oneCell' = true) (hs : Sat K w Hs) : Ret Try.prog 72 #[s.v v, v'] w fun r w' => r = s.v v' ∧ Sat K w' Hs := by
  have o1 : OneC v := ⟨hv⟩
  have o2 : OneC v' := ⟨hv'⟩
  refine Ret.enter (n := 8) (args := [s.v v, v']) Try.func72 rfl rfl ?_
  refine C.keep [(0, _), (1, _)] ⟨rfl, rfl, trivial⟩ ?_
  refine C.seq ?_
  refine C.region ?_
  refine R.sboxA hs rfl rfl ?_
  intro b2 w2 hs
  refine R.sallocA hs Try.zr52 rfl ?_
  intro b4 w4 hs
  refine R.done ?_
  refine X.keep [(1, _), (2, _), (4, _)] ⟨rfl, rfl, rfl, trivial⟩ ?_
  refine X.next ?_
  refine C.seq ?_
  refine C.region ?_
  refine R.ev rfl (E.move rfl) ?_
  first | refine R.ev rfl (E.fieldAddr0 3 rfl Try.underlying52 rfl Try.sz50 rfl) ?_ | refine R.ev rfl (E.fieldAddrN 3 rfl Try.underlying52 rfl Try.sz50 rfl) ?_
  refine R.cstore1 hs rfl rfl Try.sz50 (by first | decide | simp [*]) (by first | rfl | exact OneC.one | exact KRow.oneC' (by assumption)) ?_
  intro w1_2 hs
  try simp only [List.set_cons_zero, List.set_cons_succ] at hs
  refine R.done ?_
  refine X.keep [(2, _), (4, _)] ⟨rfl, rfl, trivial⟩ ?_
  refine X.next ?_
  refine C.seq ?_
  refine C.region ?_
  refine R.ev rfl (E.loadRowC rfl Try.underlying52 rfl Try.sz52 (by first | exact ⟨hs.ldA, by first | rfl | assumption | exact encV_len _ | exact Enc.len _ | exact len_ub (by assumption)⟩ | exact ⟨hs.ldP rfl, by first | rfl | assumption | exact encV_len _ | exact Enc.len _ | exact len_ub (by assumption)⟩ | exact ⟨hs.ldM rfl rfl, by first | rfl | assumption | exact encV_len _ | exact Enc.len _ | exact len_ub (by assumption)⟩ | exact ⟨hs.ldM (by assumption) (by first | rfl | assumption), by first | rfl | assumption | exact encV_len _ | exact Enc.len _ | exact len_ub (by assumption)⟩ | exact ⟨by assumption, by first | rfl | assumption | exact encV_len _ | exact Enc.len _ | exact len_ub (by assumption)⟩ | exact hs.ldp | exact At.partC (by assumption))) ?_
  first | refine R.cstoreAll hs rfl rfl Try.sz52 (by first | rfl | assumption | exact encV_len _ | exact Enc.len _ | exact len_ub (by assumption) | simp [*]) (by first | rfl | assumption | exact encV_len _ | exact Enc.len _ | exact len_ub (by assumption) | simp [*]) (by first | assumption | exact OneL.all | exact Enc.one _ | exact ub_all _ | (repeat' (first | refine List.forall_mem_cons.2 ⟨?_, ?_⟩ | exact List.forall_mem_nil _ | rfl | exact OneC.one | exact KRow.oneC' (by assumption)))) ?_ | refine R.cstore hs rfl rfl Try.sz52 (by first | rfl | assumption | exact encV_len _ | exact Enc.len _ | exact len_ub (by assumption) | simp [*]) (by simp [*]) (by first | assumption | exact OneL.all | exact Enc.one _ | exact ub_all _ | (repeat' (first | refine List.forall_mem_cons.2 ⟨?_, ?_⟩ | exact List.forall_mem_nil _ | rfl | exact OneC.one | exact KRow.oneC' (by assumption)))) ?_
  intro w2_1 hs
  try simp only [List.set_cons_zero, List.set_cons_succ] at hs
  refine R.done ?_
  refine X.keep [(4, _)] ⟨rfl, trivial⟩ ?_
  refine X.next ?_
  refine C.ret ?_
  refine X.resC rfl rfl Try.underlying52 rfl Try.sz52 (by first | exact ⟨hs.ldA, by first | rfl | assumption | exact encV_len _ | exact Enc.len _ | exact len_ub (by assumption)⟩ | exact ⟨hs.ldP rfl, by first | rfl | assumption | exact encV_len _ | exact Enc.len _ | exact len_ub (by assumption)⟩ | exact ⟨by assumption, by first | rfl | assumption | exact encV_len _ | exact Enc.len _ | exact len_ub (by assumption)⟩) ?_
  exact ⟨rfl, hs.to⟩
theorem rfind_any (a : Vec 32) (hs : Sat K w Hs) [hr : KRow encRE 35 K v s.L] (hL : s.L.length ≤ 1000000) : Ret Try.prog 61 #[s.v v, idV a.1] w fun r w' => r = .int .i64 (idxP (rIs a) s.L) ∧ Sat K w' Hs := by
  obtain ⟨c, wt, inc, L⟩ := s
  simp only at hr hL ⊢
  obtain ⟨ad, cap, rfl, hsl, hc⟩ := hr.ex
  have e1 := encV_len a
  refine Ret.enter (n := 22) (args := [.agg #[.int .i64 c, .int .i64 wt, .bool inc, .slice ad L.length cap], idV a.1]) Try.func61 rfl rfl ?_
  refine C.keep [(0, _), (1, _)] ⟨rfl, rfl, trivial⟩ ?_
  refine C.seq ?_
  refine C.region ?_
  refine R.sboxA hs rfl rfl ?_
  intro b2 w2 hs
  refine R.sboxA hs rfl rfl ?_
  intro b3 w3 hs
  refine R.ev rfl (E.assign rfl) ?_
  refine R.done ?_
  refine X.keep [(2, _), (3, _)] ⟨rfl, rfl, trivial⟩ ?_
  refine X.next ?_
  refine C.seq ?_
  refine C.seq ?_
  refine C.region ?_
  refine R.ev rfl (E.assign rfl) ?_
  refine R.done ?_
  refine X.keep [(2, _), (3, _), (5, _)] ⟨rfl, rfl, rfl, trivial⟩ ?_
  refine X.next ?_
  refine C.block ?_
  refine C.loop  [(2, _), (3, _)] (fun k => [(5, .int .i64 (k : Nat))]) (fun k w' => k ≤ L.length ∧ Sat K w' (row b3 29 (a.1.map ub) :: row b2 52 [.int .i64 c, .int .i64 wt, .bool inc, .slice ad L.length cap] :: Hs) ∧ ∀ j, j < k → ∀ y, L[j]? = some y → rIs a y = false) (fun k => L.length - k) (0) ⟨rfl, rfl, rfl, trivial⟩ ⟨Nat.zero_le _, hs, fun j h => by omega⟩ ?_
  rintro k w1 ⟨hk, hs, hno⟩
  refine C.keep [(2, _), (3, _), (5, _)] ⟨rfl, rfl, rfl, trivial⟩ ?_
  refine C.seq ?_
  refine C.seq ?_
  refine C.region ?_
  refine R.ev rfl (E.move rfl) ?_
  first | refine R.ev rfl (E.fieldAddr0 3 rfl Try.underlying52 rfl Try.sz50 rfl) ?_ | refine R.ev rfl (E.fieldAddrN 3 rfl Try.underlying52 rfl Try.sz50 rfl) ?_
  refine R.ev rfl (E.load1 rfl Try.underlying50 rfl (by first | exact hs.ldc | exact hs.ld rfl | exact hs.ld (by assumption) | exact by assumption | exact At.cellC (by assumption))) ?_
  refine R.ev rfl (E.lenSl rfl Try.underlying50) ?_
  refine R.ev rfl (E.lss rfl rfl) ?_
  refine R.done ?_
  refine X.keep [(2, _), (3, _), (5, _), (10, _)] ⟨rfl, rfl, rfl, rfl, trivial⟩ ?_
  refine X.next ?_
  refine C.cdec rfl (fun h10 => ?_) (fun h10 => ?_)
  · obtain ⟨y, bk_y, of_y, hy, my, ly, rfl, Ay⟩ := hs.el (i := k) (ad := ad) (n := L.length) (c := cap) (by omega)
    have ay := Ay _ hs
    have e2 := encV_len y.id
    refine C.skip ?_
    refine X.next ?_
    refine C.seq ?_
    refine C.block ?_
    refine C.seq ?_
    refine C.drawn (SatS hs) ([1, 5, 6], [0, 2, 3, 4, 7]) (by kernel_rfl) ?_
    have hs := hs.drew
    first | refine D.evP 0 rfl (by kernel_rfl) rfl (fun _ => hs.to) (fun _ => E.fieldAddr0 3 rfl Try.underlying52 rfl Try.sz50 rfl) ?_ | refine D.evP 0 rfl (by kernel_rfl) rfl (fun _ => hs.to) (fun _ => E.fieldAddrN 3 rfl Try.underlying52 rfl Try.sz50 rfl) ?_
    refine D.evP 2 rfl (by kernel_rfl) rfl (fun _ => hs.to) (fun _ => E.move rfl) ?_
    refine D.ev 1 rfl (by kernel_rfl) rfl hs.to (fun _ hS => E.load1 rfl Try.underlying50 rfl (by first | exact hS.ldc | exact hS.ld rfl | exact hS.ld (by assumption) | exact by assumption | exact At.cellC (by assumption) | exact At.cellC ((by assumption : ∀ w', Sat _ w' _ → At w' _ _ _) _ hS) | exact (by assumption : ∀ w', Sat _ w' _ → World.cell? w' _ = some _) _ hS)) ?_
    refine D.evP 3 rfl (by kernel_rfl) rfl (fun _ => hs.to) (fun _ => E.indexAddr rfl rfl Try.underlying50 Try.sz90 rfl (by first | omega | decide)) ?_
    first | refine D.evP 4 rfl (by kernel_rfl) rfl (fun _ => hs.to) (fun _ => E.fieldAddr0 0 rfl Try.underlying90 rfl Try.sz29 rfl) ?_ | refine D.evP 4 rfl (by kernel_rfl) rfl (fun _ => hs.to) (fun _ => E.fieldAddrN 0 rfl Try.underlying90 rfl Try.sz29 rfl) ?_
    refine D.ev 5 rfl (by kernel_rfl) rfl hs.to (fun _ hS => E.loadRow (cs := y.id.1.map ub) rfl Try.underlying29 rfl Try.sz29 (Ay _ hS).app.1 e2) ?_
    refine D.ev 6 rfl (by kernel_rfl) rfl hs.to (fun _ hS => E.loadRowC rfl Try.underlying29 rfl Try.sz29 (by first | exact ⟨hS.ldA, by first | rfl | assumption | exact encV_len _ | exact Enc.len _ | exact len_ub (by assumption)⟩ | exact ⟨hS.ldP rfl, by first | rfl | assumption | exact encV_len _ | exact Enc.len _ | exact len_ub (by assumption)⟩ | exact ⟨hS.ldM rfl rfl, by first | rfl | assumption | exact encV_len _ | exact Enc.len _ | exact len_ub (by assumption)⟩ | exact ⟨hS.ldM (by assumption) (by first | rfl | assumption), by first | rfl | assumption | exact encV_len _ | exact Enc.len _ | exact len_ub (by assumption)⟩ | exact ⟨by assumption, by first | rfl | assumption | exact encV_len _ | exact Enc.len _ | exact len_ub (by assumption)⟩ | exact ⟨(by assumption : ∀ w', Sat _ w' _ → At w' _ _ _) _ hS, by first | rfl | assumption | exact encV_len _ | exact Enc.len _ | exact len_ub (by assumption)⟩ | exact hS.ldp | exact At.partC (by assumption) | exact At.partC ((by assumption : ∀ w', Sat _ w' _ → At w' _ _ _) _ hS))) ?_
    refine D.evP 7 rfl (by kernel_rfl) rfl (fun _ => hs.to) (fun _ => (E.eqV 10 (a := y.id) (b := a) rfl rfl Try.lv29 rfl Try.underlying29 rfl Try.gd29)) ?_
    refine D.done rfl (by kernel_rfl) ?_
    refine X.keep [(2, _), (3, _), (5, _), (20, _)] ⟨rfl, rfl, rfl, rfl, trivial⟩ ?_
    refine X.next ?_
    refine C.cbool rfl (fun h20 => ?_) (fun h20 => ?_)
    · refine C.seq ?_
      refine C.region ?_
      refine R.ev rfl (E.move rfl) ?_
      refine R.ev rfl (E.assign rfl) ?_
      refine R.done ?_
      refine X.keep [(4, _)] ⟨rfl, trivial⟩ ?_
      refine X.next ?_
      refine C.ret ?_
      refine X.blockRet ?_
      refine X.thenRet ?_
      refine X.loopRet ?_
      refine X.blockRet ?_
      refine X.thenRet ?_
      refine X.ret1 rfl rfl ?_
      exact ⟨by rw [idxP_some (p := rIs a) hy h20 hno], hs.to⟩
    · refine C.skip ?_
      refine X.blockNormal ?_
      refine X.next ?_
      refine C.region ?_
      refine R.ev rfl (E.move rfl) ?_
      refine R.ev rfl (E.add rfl rfl (by omega) (by omega)) ?_
      refine R.ev rfl (E.assign rfl) ?_
      refine R.done ?_
      refine X.keep [(2, _), (3, _), (5, _)] ⟨rfl, rfl, rfl, trivial⟩ ?_
      exact X.again (k + 1) ⟨rfl, rfl, rfl, trivial⟩ ⟨by omega, hs.to, idxP_step (p := rIs a) hy h20 hno⟩ (by omega)
  · refine C.exit ?_
    refine X.thenExit ?_
    refine X.loopExit ?_
    refine X.blockExit ?_
    refine X.next ?_
    refine C.seq ?_
    refine C.region ?_
    refine R.ev rfl (E.assign rfl) ?_
    refine R.done ?_
    refine X.keep [(4, _)] ⟨rfl, trivial⟩ ?_
    refine X.next ?_
    refine C.ret ?_
    refine X.ret1 rfl rfl ?_
    exact ⟨by rw [idxP_none (p := rIs a) hno (by omega)], hs.to⟩
def rnewE (c wt : Int) : Int := if newOk c wt then 0 else 2
theorem rnew_any (c wt : Int) (hs : Sat K w Hs) : Ret Try.prog 53 #[.int .i64 c, .int .i64 wt] w fun r w' => RPost K Hs (if newOk c wt then ⟨c, wt, false, []⟩ else ⟨0, 0, false, []⟩) (fun b => .tuple #[b, .int .i64 (rnewE c wt)]) r w' := by
  refine Ret.enter (n := 24) (args := [.int .i64 c, .int .i64 wt]) Try.func53 rfl rfl ?_
  refine C.keep [(0, _), (1, _)] ⟨rfl, rfl, trivial⟩ ?_
  refine C.seq ?_
  refine C.region ?_
  refine R.sallocA hs Try.zr52 rfl ?_
  intro b4 w4 hs
  refine R.ev rfl (E.assign rfl) ?_
  refine R.done ?_
  refine X.keep [(0, _), (1, _), (4, _)] ⟨rfl, rfl, rfl, trivial⟩ ?_
  refine X.next ?_
  refine C.seq ?_
  refine C.seq ?_
  refine C.region ?_
  refine R.ev rfl (E.move rfl) ?_
  refine R.ev rfl (E.lss rfl rfl) ?_
  refine R.ev rfl (E.move rfl) ?_
  refine R.split 8 rfl (fun h8 => ?_) (fun h8 => ?_)
  · refine R.gskip rfl rfl rfl ?_
    refine R.gskip rfl rfl rfl ?_
    refine R.ev rfl (E.pickT rfl rfl) ?_
    refine R.ev rfl (E.move rfl) ?_
    refine R.gskip rfl rfl rfl ?_
    refine R.gskip rfl rfl rfl ?_
    refine R.ev rfl (E.pickT rfl rfl) ?_
    refine R.ev rfl (E.move rfl) ?_
    refine R.gskip rfl rfl rfl ?_
    refine R.gskip rfl rfl rfl ?_
    refine R.ev rfl (E.pickT rfl rfl) ?_
    refine R.done ?_
    refine X.keep [(0, _), (1, _), (4, _), (19, _)] ⟨rfl, rfl, rfl, rfl, trivial⟩ ?_
    refine X.next ?_
    refine C.ctrue rfl ?_
    refine C.seq ?_
    refine C.region ?_
    refine R.ev rfl (E.buildG (r := [.int .i64 0, .int .i64 0, .bool false, .slice none 0 0]) rfl Try.underlying52 Try.zr52 Try.ql52 (by kernel_rfl) (by kernel_rfl) trivial (by first | rfl | simp [setF, fieldsOf, Value.cells])) ?_
    first | refine R.cstoreAll hs rfl rfl Try.sz52 (by first | rfl | assumption | exact encV_len _ | exact Enc.len _ | exact len_ub (by assumption) | simp [*]) (by first | rfl | assumption | exact encV_len _ | exact Enc.len _ | exact len_ub (by assumption) | simp [*]) (by first | assumption | exact OneL.all | exact Enc.one _ | exact ub_all _ | (repeat' (first | refine List.forall_mem_cons.2 ⟨?_, ?_⟩ | exact List.forall_mem_nil _ | rfl | exact OneC.one | exact KRow.oneC' (by assumption)))) ?_ | refine R.cstore hs rfl rfl Try.sz52 (by first | rfl | assumption | exact encV_len _ | exact Enc.len _ | exact len_ub (by assumption) | simp [*]) (by simp [*]) (by first | assumption | exact OneL.all | exact Enc.one _ | exact ub_all _ | (repeat' (first | refine List.forall_mem_cons.2 ⟨?_, ?_⟩ | exact List.forall_mem_nil _ | rfl | exact OneC.one | exact KRow.oneC' (by assumption)))) ?_
    intro w2_1 hs
    try simp only [List.set_cons_zero, List.set_cons_succ] at hs
    refine R.ev rfl (E.assign rfl) ?_
    refine R.done ?_
    refine X.keep [(4, _), (5, _)] ⟨rfl, rfl, trivial⟩ ?_
    refine X.next ?_
    refine C.ret ?_
    refine X.thenRet ?_
    refine X.resCT rfl rfl Try.underlying52 rfl Try.sz52 (by first | exact ⟨hs.ldA, by first | rfl | assumption | exact encV_len _ | exact Enc.len _ | exact len_ub (by assumption)⟩ | exact ⟨hs.ldP rfl, by first | rfl | assumption | exact encV_len _ | exact Enc.len _ | exact len_ub (by assumption)⟩ | exact ⟨by assumption, by first | rfl | assumption | exact encV_len _ | exact Enc.len _ | exact len_ub (by assumption)⟩) rfl ?_
    have hn : newOk c wt = false := by simp_all [newOk, isCap, isWt]; try omega
    rw [rnewE, hn]
    exact RPost.same (s := ⟨0, 0, false, []⟩) KRow.nil hs.to
  · refine R.gyes rfl rfl ?_
    refine R.ev rfl (E.move rfl) ?_
    refine R.gyes rfl rfl ?_
    refine R.ev rfl (E.gtr rfl rfl) ?_
    refine R.ev rfl (E.pickF rfl rfl) ?_
    refine R.ev rfl (E.move rfl) ?_
    refine R.split 12 rfl (fun h12 => ?_) (fun h12 => ?_)
    · refine R.gskip rfl rfl rfl ?_
      refine R.gskip rfl rfl rfl ?_
      refine R.ev rfl (E.pickT rfl rfl) ?_
      refine R.ev rfl (E.move rfl) ?_
      refine R.gskip rfl rfl rfl ?_
      refine R.gskip rfl rfl rfl ?_
      refine R.ev rfl (E.pickT rfl rfl) ?_
      refine R.done ?_
      refine X.keep [(0, _), (1, _), (4, _), (19, _)] ⟨rfl, rfl, rfl, rfl, trivial⟩ ?_
      refine X.next ?_
      refine C.ctrue rfl ?_
      refine C.seq ?_
      refine C.region ?_
      refine R.ev rfl (E.buildG (r := [.int .i64 0, .int .i64 0, .bool false, .slice none 0 0]) rfl Try.underlying52 Try.zr52 Try.ql52 (by kernel_rfl) (by kernel_rfl) trivial (by first | rfl | simp [setF, fieldsOf, Value.cells])) ?_
      first | refine R.cstoreAll hs rfl rfl Try.sz52 (by first | rfl | assumption | exact encV_len _ | exact Enc.len _ | exact len_ub (by assumption) | simp [*]) (by first | rfl | assumption | exact encV_len _ | exact Enc.len _ | exact len_ub (by assumption) | simp [*]) (by first | assumption | exact OneL.all | exact Enc.one _ | exact ub_all _ | (repeat' (first | refine List.forall_mem_cons.2 ⟨?_, ?_⟩ | exact List.forall_mem_nil _ | rfl | exact OneC.one | exact KRow.oneC' (by assumption)))) ?_ | refine R.cstore hs rfl rfl Try.sz52 (by first | rfl | assumption | exact encV_len _ | exact Enc.len _ | exact len_ub (by assumption) | simp [*]) (by simp [*]) (by first | assumption | exact OneL.all | exact Enc.one _ | exact ub_all _ | (repeat' (first | refine List.forall_mem_cons.2 ⟨?_, ?_⟩ | exact List.forall_mem_nil _ | rfl | exact OneC.one | exact KRow.oneC' (by assumption)))) ?_
      intro w2_1 hs
      try simp only [List.set_cons_zero, List.set_cons_succ] at hs
      refine R.ev rfl (E.assign rfl) ?_
      refine R.done ?_
      refine X.keep [(4, _), (5, _)] ⟨rfl, rfl, trivial⟩ ?_
      refine X.next ?_
      refine C.ret ?_
      refine X.thenRet ?_
      refine X.resCT rfl rfl Try.underlying52 rfl Try.sz52 (by first | exact ⟨hs.ldA, by first | rfl | assumption | exact encV_len _ | exact Enc.len _ | exact len_ub (by assumption)⟩ | exact ⟨hs.ldP rfl, by first | rfl | assumption | exact encV_len _ | exact Enc.len _ | exact len_ub (by assumption)⟩ | exact ⟨by assumption, by first | rfl | assumption | exact encV_len _ | exact Enc.len _ | exact len_ub (by assumption)⟩) rfl ?_
      have hn : newOk c wt = false := by simp_all [newOk, isCap, isWt]; try omega
      rw [rnewE, hn]
      exact RPost.same (s := ⟨0, 0, false, []⟩) KRow.nil hs.to
    · refine R.gyes rfl rfl ?_
      refine R.ev rfl (E.move rfl) ?_
      refine R.gyes rfl rfl ?_
      refine R.ev rfl (E.lss rfl rfl) ?_
      refine R.ev rfl (E.pickF rfl rfl) ?_
      refine R.ev rfl (E.move rfl) ?_
      refine R.split 16 rfl (fun h16 => ?_) (fun h16 => ?_)
      · refine R.gskip rfl rfl rfl ?_
        refine R.gskip rfl rfl rfl ?_
        refine R.ev rfl (E.pickT rfl rfl) ?_
        refine R.done ?_
        refine X.keep [(0, _), (1, _), (4, _), (19, _)] ⟨rfl, rfl, rfl, rfl, trivial⟩ ?_
        refine X.next ?_
        refine C.ctrue rfl ?_
        refine C.seq ?_
        refine C.region ?_
        refine R.ev rfl (E.buildG (r := [.int .i64 0, .int .i64 0, .bool false, .slice none 0 0]) rfl Try.underlying52 Try.zr52 Try.ql52 (by kernel_rfl) (by kernel_rfl) trivial (by first | rfl | simp [setF, fieldsOf, Value.cells])) ?_
        first | refine R.cstoreAll hs rfl rfl Try.sz52 (by first | rfl | assumption | exact encV_len _ | exact Enc.len _ | exact len_ub (by assumption) | simp [*]) (by first | rfl | assumption | exact encV_len _ | exact Enc.len _ | exact len_ub (by assumption) | simp [*]) (by first | assumption | exact OneL.all | exact Enc.one _ | exact ub_all _ | (repeat' (first | refine List.forall_mem_cons.2 ⟨?_, ?_⟩ | exact List.forall_mem_nil _ | rfl | exact OneC.one | exact KRow.oneC' (by assumption)))) ?_ | refine R.cstore hs rfl rfl Try.sz52 (by first | rfl | assumption | exact encV_len _ | exact Enc.len _ | exact len_ub (by assumption) | simp [*]) (by simp [*]) (by first | assumption | exact OneL.all | exact Enc.one _ | exact ub_all _ | (repeat' (first | refine List.forall_mem_cons.2 ⟨?_, ?_⟩ | exact List.forall_mem_nil _ | rfl | exact OneC.one | exact KRow.oneC' (by assumption)))) ?_
        intro w2_1 hs
        try simp only [List.set_cons_zero, List.set_cons_succ] at hs
        refine R.ev rfl (E.assign rfl) ?_
        refine R.done ?_
        refine X.keep [(4, _), (5, _)] ⟨rfl, rfl, trivial⟩ ?_
        refine X.next ?_
        refine C.ret ?_
        refine X.thenRet ?_
        refine X.resCT rfl rfl Try.underlying52 rfl Try.sz52 (by first | exact ⟨hs.ldA, by first | rfl | assumption | exact encV_len _ | exact Enc.len _ | exact len_ub (by assumption)⟩ | exact ⟨hs.ldP rfl, by first | rfl | assumption | exact encV_len _ | exact Enc.len _ | exact len_ub (by assumption)⟩ | exact ⟨by assumption, by first | rfl | assumption | exact encV_len _ | exact Enc.len _ | exact len_ub (by assumption)⟩) rfl ?_
        have hn : newOk c wt = false := by simp_all [newOk, isCap, isWt]; try omega
        rw [rnewE, hn]
        exact RPost.same (s := ⟨0, 0, false, []⟩) KRow.nil hs.to
      · refine R.gyes rfl rfl ?_
        refine R.ev rfl (E.move rfl) ?_
        refine R.gyes rfl rfl ?_
        refine R.ev rfl (E.gtr rfl rfl) ?_
        refine R.ev rfl (E.pickF rfl rfl) ?_
        refine R.done ?_
        refine X.keep [(0, _), (1, _), (4, _), (19, _)] ⟨rfl, rfl, rfl, rfl, trivial⟩ ?_
        refine X.next ?_
        refine C.cdec rfl (fun h19 => ?_) (fun h19 => ?_)
        · refine C.seq ?_
          refine C.region ?_
          refine R.ev rfl (E.buildG (r := [.int .i64 0, .int .i64 0, .bool false, .slice none 0 0]) rfl Try.underlying52 Try.zr52 Try.ql52 (by kernel_rfl) (by kernel_rfl) trivial (by first | rfl | simp [setF, fieldsOf, Value.cells])) ?_
          first | refine R.cstoreAll hs rfl rfl Try.sz52 (by first | rfl | assumption | exact encV_len _ | exact Enc.len _ | exact len_ub (by assumption) | simp [*]) (by first | rfl | assumption | exact encV_len _ | exact Enc.len _ | exact len_ub (by assumption) | simp [*]) (by first | assumption | exact OneL.all | exact Enc.one _ | exact ub_all _ | (repeat' (first | refine List.forall_mem_cons.2 ⟨?_, ?_⟩ | exact List.forall_mem_nil _ | rfl | exact OneC.one | exact KRow.oneC' (by assumption)))) ?_ | refine R.cstore hs rfl rfl Try.sz52 (by first | rfl | assumption | exact encV_len _ | exact Enc.len _ | exact len_ub (by assumption) | simp [*]) (by simp [*]) (by first | assumption | exact OneL.all | exact Enc.one _ | exact ub_all _ | (repeat' (first | refine List.forall_mem_cons.2 ⟨?_, ?_⟩ | exact List.forall_mem_nil _ | rfl | exact OneC.one | exact KRow.oneC' (by assumption)))) ?_
          intro w2_1 hs
          try simp only [List.set_cons_zero, List.set_cons_succ] at hs
          refine R.ev rfl (E.assign rfl) ?_
          refine R.done ?_
          refine X.keep [(4, _), (5, _)] ⟨rfl, rfl, trivial⟩ ?_
          refine X.next ?_
          refine C.ret ?_
          refine X.thenRet ?_
          refine X.resCT rfl rfl Try.underlying52 rfl Try.sz52 (by first | exact ⟨hs.ldA, by first | rfl | assumption | exact encV_len _ | exact Enc.len _ | exact len_ub (by assumption)⟩ | exact ⟨hs.ldP rfl, by first | rfl | assumption | exact encV_len _ | exact Enc.len _ | exact len_ub (by assumption)⟩ | exact ⟨by assumption, by first | rfl | assumption | exact encV_len _ | exact Enc.len _ | exact len_ub (by assumption)⟩) rfl ?_
          have hn : newOk c wt = false := by simp_all [newOk, isCap, isWt]; try omega
          rw [rnewE, hn]
          exact RPost.same (s := ⟨0, 0, false, []⟩) KRow.nil hs.to
        · refine C.skip ?_
          refine X.next ?_
          refine C.seq ?_
          refine C.region ?_
          refine R.ev rfl (E.move rfl) ?_
          refine R.ev rfl (E.move rfl) ?_
          refine R.ev rfl (E.buildG (r := [.int .i64 c, .int .i64 wt, .bool false, .slice none 0 0]) rfl Try.underlying52 Try.zr52 Try.ql52 (by kernel_rfl) (by kernel_rfl) ⟨⟨_, rfl, by first | rfl | exact vsz _ | simp [Value.cells, *]⟩, ⟨_, rfl, by first | rfl | exact vsz _ | simp [Value.cells, *]⟩, trivial⟩ (by first | rfl | simp [setF, fieldsOf, Value.cells])) ?_
          first | refine R.cstoreAll hs rfl rfl Try.sz52 (by first | rfl | assumption | exact encV_len _ | exact Enc.len _ | exact len_ub (by assumption) | simp [*]) (by first | rfl | assumption | exact encV_len _ | exact Enc.len _ | exact len_ub (by assumption) | simp [*]) (by first | assumption | exact OneL.all | exact Enc.one _ | exact ub_all _ | (repeat' (first | refine List.forall_mem_cons.2 ⟨?_, ?_⟩ | exact List.forall_mem_nil _ | rfl | exact OneC.one | exact KRow.oneC' (by assumption)))) ?_ | refine R.cstore hs rfl rfl Try.sz52 (by first | rfl | assumption | exact encV_len _ | exact Enc.len _ | exact len_ub (by assumption) | simp [*]) (by simp [*]) (by first | assumption | exact OneL.all | exact Enc.one _ | exact ub_all _ | (repeat' (first | refine List.forall_mem_cons.2 ⟨?_, ?_⟩ | exact List.forall_mem_nil _ | rfl | exact OneC.one | exact KRow.oneC' (by assumption)))) ?_
          intro w3_3 hs
          try simp only [List.set_cons_zero, List.set_cons_succ] at hs
          refine R.ev rfl (E.assign rfl) ?_
          refine R.done ?_
          refine X.keep [(4, _), (5, _)] ⟨rfl, rfl, trivial⟩ ?_
          refine X.next ?_
          refine C.ret ?_
          refine X.resCT rfl rfl Try.underlying52 rfl Try.sz52 (by first | exact ⟨hs.ldA, by first | rfl | assumption | exact encV_len _ | exact Enc.len _ | exact len_ub (by assumption)⟩ | exact ⟨hs.ldP rfl, by first | rfl | assumption | exact encV_len _ | exact Enc.len _ | exact len_ub (by assumption)⟩ | exact ⟨by assumption, by first | rfl | assumption | exact encV_len _ | exact Enc.len _ | exact len_ub (by assumption)⟩) rfl ?_
          have hn : newOk c wt = true := by simp_all [newOk, isCap, isWt]; try omega
          rw [rnewE, hn]
          exact RPost.same (s := ⟨c, wt, false, []⟩) KRow.nil hs.to
/-! without an element -/
theorem KSl.pre {α : Type} {enc : α → List Value} {sz : Nat} {ad : Option Addr} {m : Nat} {L : List α} (h : KSl enc sz K ad m L) {a : Nat} (h1 : a ≤ m) : KSl enc sz K ad a (L.take a) := by
  refine ⟨by rw [List.length_take, h.len]; omega, fun y hy => h.size y (List.mem_of_mem_take hy), fun hne => ?_⟩
  obtain ⟨b, off, e, hk⟩ := h.at_ (by intro e; rw [e] at hne; simp at hne)
  refine ⟨b, off, e, fun i v hv => hk i v ?_⟩
  have : L.flatMap enc = (L.take a).flatMap enc ++ (L.drop a).flatMap enc := by rw [← List.flatMap_append, List.take_append_drop]
  rw [this, List.getElem?_append_left (List.getElem?_eq_some_iff.1 hv).1]; exact hv
theorem without_any {L : List RE} (i : Nat) (hs : Sat K w Hs) [hr : KRow encRE 35 K v L] (hi : i < L.length) (hL : L.length ≤ 1000000) : Ret Try.prog 76 #[v, .int .i64 (i : Nat)] w fun r w' => ∃ F', RowL 90 encRE 35 r (L.take i ++ L.drop (i + 1)) F' ∧ Sat K w' (F' :: Hs) := by
  obtain ⟨ad, cap, rfl, hsl, hc⟩ := hr.ex
  have k1 : KRow encRE 35 K (.slice ad i cap) (L.take i) := ⟨ad, cap, by rw [List.length_take, Nat.min_eq_left (by omega)], by rw [List.length_take, Nat.min_eq_left (by omega)]; exact KSl.pre hsl (by omega), by rw [List.length_take]; omega⟩
  have k2 : KRow encRE 35 K (.slice (subAd ad cap (i + 1) 35) (L.length - (i + 1)) (cap - (i + 1))) (L.drop (i + 1)) := ⟨_, _, by rw [List.length_drop], by rw [List.length_drop]; exact hsl.tail hc (by omega), by rw [List.length_drop]; omega⟩
  have hl9 : (L.take i).length = i := by rw [List.length_take]; omega
  have hl10 : (L.drop (i + 1)).length = L.length - (i + 1) := List.length_drop
  refine Ret.enter (n := 15) (args := [.slice ad L.length cap, .int .i64 (i : Nat)]) Try.func76 rfl rfl ?_
  refine C.keep [(0, _), (1, _)] ⟨rfl, rfl, trivial⟩ ?_
  refine C.seq ?_
  refine C.region ?_
  refine R.ev rfl (E.assign rfl) ?_
  refine R.done ?_
  refine X.keep [(0, _), (1, _)] ⟨rfl, rfl, trivial⟩ ?_
  refine X.next ?_
  refine C.seq ?_
  refine C.drawn (SatS hs) ([], [1, 2, 3, 5, 6, 7, 8, 10]) (by kernel_rfl) ?_
  have hs := hs.drew
  refine D.evP 1 rfl (by kernel_rfl) rfl (np (by kernel_rfl)) (fun _ => E.move rfl) ?_
  refine D.evP 2 rfl (by kernel_rfl) rfl (np (by kernel_rfl)) (fun _ => E.move rfl) ?_
  refine D.evP 3 rfl (by kernel_rfl) rfl (np (by kernel_rfl)) (fun _ => E.sliceH rfl rfl Try.underlying50 Try.sz90 rfl (by omega)) ?_
  refine D.evP 5 rfl (by kernel_rfl) rfl (np (by kernel_rfl)) (fun _ => E.move rfl) ?_
  refine D.evP 6 rfl (by kernel_rfl) rfl (np (by kernel_rfl)) (fun _ => E.move rfl) ?_
  refine D.evP 7 rfl (by kernel_rfl) rfl (np (by kernel_rfl)) (fun _ => E.add rfl rfl (by omega) (by omega)) ?_
  refine D.evP 8 rfl (by kernel_rfl) rfl (np (by kernel_rfl)) (fun _ => E.sliceLs (a := i + 1) rfl rfl Try.underlying50 Try.sz90 rfl (by omega)) ?_
  refine D.act 0 rfl (by kernel_rfl) ?_
  refine R.sbuild0 (enc := encRE) hs Try.underlying50 Try.sz90 rfl ?_
  intro v5 w5 F5 r5 nn5 hs
  refine D.backT (by kernel_rfl) ?_
  refine D.act 4 rfl (by kernel_rfl) ?_
  refine R.cappSl hs rfl rfl Try.underlying50 Try.by90 (by rfl) rfl (by decide) (by first | omega | (simp only [List.length_append, List.length_cons, List.length_nil] at *; omega)) (by first | omega | (simp only [List.length_append, List.length_cons, List.length_nil] at *; omega)) ?_
  intro v9 w9 F9 r9 hs
  rw [List.nil_append] at r9
  refine D.backT (by kernel_rfl) ?_
  refine D.act 9 rfl (by kernel_rfl) ?_
  refine R.cappSl hs rfl rfl Try.underlying50 Try.by90 (by rfl) rfl (by decide) (by first | omega | (simp only [List.length_append, List.length_cons, List.length_nil] at *; omega)) (by first | omega | (simp only [List.length_append, List.length_cons, List.length_nil] at *; omega)) ?_
  intro v14 w14 F14 r14 hs
  refine D.backT (by kernel_rfl) ?_
  refine D.evP 10 rfl (by kernel_rfl) rfl (np (by kernel_rfl)) (fun _ => E.assign rfl) ?_
  refine D.done rfl (by kernel_rfl) ?_
  refine X.keep [(4, _)] ⟨rfl, trivial⟩ ?_
  refine X.next ?_
  refine C.ret ?_
  refine X.ret1 rfl rfl ?_
  exact ⟨_, r14, hs.to⟩
def rAddE (s : RB) (a : Vec 32) (due : Int) : Int := if a = zid then 1 else if isMin due = false then 2 else if rHas a s.L then 7 else if s.cap ≤ s.L.length then 9 else 0
def rAddS (s : RB) (a : Vec 32) (due : Int) : RB := if rAddE s a due = 9 then { s with inc := true } else if rAddE s a due = 0 then { s with L := s.L ++ [⟨a, due, 0, false⟩] } else s
theorem radd_any (a : Vec 32) (due : Int) (hs : Sat K w Hs) [hr : KRow encRE 35 K v s.L] (hL : s.L.length ≤ 1000000) : Ret Try.prog 67 #[s.v v, idV a.1, .int .i64 due] w fun r w' => RPost K Hs (rAddS s a due) (fun b => .tuple #[b, .int .i64 (rAddE s a due)]) r w' := by
  obtain ⟨c, wt, inc, L⟩ := s
  simp only at hr hL ⊢
  obtain ⟨ad, cap, rfl, hsl, hc⟩ := hr.ex
  have e1 := encV_len a
  refine Ret.enter (n := 40) (args := [.agg #[.int .i64 c, .int .i64 wt, .bool inc, .slice ad L.length cap], idV a.1, .int .i64 due]) Try.func67 rfl rfl ?_
  refine C.keep [(0, _), (1, _), (2, _)] ⟨rfl, rfl, rfl, trivial⟩ ?_
  refine C.seq ?_
  refine C.region ?_
  refine R.sboxA hs rfl rfl ?_
  intro b3 w3 hs
  refine R.sboxA hs rfl rfl ?_
  intro b4 w4 hs
  refine R.sallocA hs Try.zr52 rfl ?_
  intro b6 w6 hs
  refine R.ev rfl (E.assign rfl) ?_
  refine R.done ?_
  refine X.keep [(2, _), (3, _), (4, _), (6, _)] ⟨rfl, rfl, rfl, rfl, trivial⟩ ?_
  refine X.next ?_
  refine C.seq ?_
  refine C.seq ?_
  refine C.region ?_
  refine R.ev rfl (E.loadRowC rfl Try.underlying29 rfl Try.sz29 (by first | exact ⟨hs.ldA, by first | rfl | assumption | exact encV_len _ | exact Enc.len _ | exact len_ub (by assumption)⟩ | exact ⟨hs.ldP rfl, by first | rfl | assumption | exact encV_len _ | exact Enc.len _ | exact len_ub (by assumption)⟩ | exact ⟨hs.ldM rfl rfl, by first | rfl | assumption | exact encV_len _ | exact Enc.len _ | exact len_ub (by assumption)⟩ | exact ⟨hs.ldM (by assumption) (by first | rfl | assumption), by first | rfl | assumption | exact encV_len _ | exact Enc.len _ | exact len_ub (by assumption)⟩ | exact ⟨by assumption, by first | rfl | assumption | exact encV_len _ | exact Enc.len _ | exact len_ub (by assumption)⟩ | exact hs.ldp | exact At.partC (by assumption))) ?_
  refine R.ev rfl ((E.buildA rfl Try.underlying29 Try.zr29 Try.sz5 rfl).as (u := .agg (encV zid).toArray) (by rfl)) ?_
  refine R.ev rfl ((E.eqV 10 (a := a) (b := zid) rfl rfl Try.lv29 rfl Try.underlying29 rfl Try.gd29)) ?_
  refine R.done ?_
  refine X.keep [(2, _), (3, _), (4, _), (6, _), (10, _)] ⟨rfl, rfl, rfl, rfl, rfl, trivial⟩ ?_
  refine X.next ?_
  refine C.cdec rfl (fun h10 => ?_) (fun h10 => ?_)
  · refine C.seq ?_
    refine C.region ?_
    refine R.ev rfl (E.loadRowC rfl Try.underlying52 rfl Try.sz52 (by first | exact ⟨hs.ldA, by first | rfl | assumption | exact encV_len _ | exact Enc.len _ | exact len_ub (by assumption)⟩ | exact ⟨hs.ldP rfl, by first | rfl | assumption | exact encV_len _ | exact Enc.len _ | exact len_ub (by assumption)⟩ | exact ⟨hs.ldM rfl rfl, by first | rfl | assumption | exact encV_len _ | exact Enc.len _ | exact len_ub (by assumption)⟩ | exact ⟨hs.ldM (by assumption) (by first | rfl | assumption), by first | rfl | assumption | exact encV_len _ | exact Enc.len _ | exact len_ub (by assumption)⟩ | exact ⟨by assumption, by first | rfl | assumption | exact encV_len _ | exact Enc.len _ | exact len_ub (by assumption)⟩ | exact hs.ldp | exact At.partC (by assumption))) ?_
    first | refine R.cstoreAll hs rfl rfl Try.sz52 (by first | rfl | assumption | exact encV_len _ | exact Enc.len _ | exact len_ub (by assumption) | simp [*]) (by first | rfl | assumption | exact encV_len _ | exact Enc.len _ | exact len_ub (by assumption) | simp [*]) (by first | assumption | exact OneL.all | exact Enc.one _ | exact ub_all _ | (repeat' (first | refine List.forall_mem_cons.2 ⟨?_, ?_⟩ | exact List.forall_mem_nil _ | rfl | exact OneC.one | exact KRow.oneC' (by assumption)))) ?_ | refine R.cstore hs rfl rfl Try.sz52 (by first | rfl | assumption | exact encV_len _ | exact Enc.len _ | exact len_ub (by assumption) | simp [*]) (by simp [*]) (by first | assumption | exact OneL.all | exact Enc.one _ | exact ub_all _ | (repeat' (first | refine List.forall_mem_cons.2 ⟨?_, ?_⟩ | exact List.forall_mem_nil _ | rfl | exact OneC.one | exact KRow.oneC' (by assumption)))) ?_
    intro w2_1 hs
    try simp only [List.set_cons_zero, List.set_cons_succ] at hs
    refine R.ev rfl (E.assign rfl) ?_
    refine R.done ?_
    refine X.keep [(6, _), (7, _)] ⟨rfl, rfl, trivial⟩ ?_
    refine X.next ?_
    refine C.ret ?_
    refine X.thenRet ?_
    refine X.resCT rfl rfl Try.underlying52 rfl Try.sz52 (by first | exact ⟨hs.ldA, by first | rfl | assumption | exact encV_len _ | exact Enc.len _ | exact len_ub (by assumption)⟩ | exact ⟨hs.ldP rfl, by first | rfl | assumption | exact encV_len _ | exact Enc.len _ | exact len_ub (by assumption)⟩ | exact ⟨by assumption, by first | rfl | assumption | exact encV_len _ | exact Enc.len _ | exact len_ub (by assumption)⟩) rfl ?_
    have hE : rAddE ⟨c, wt, inc, L⟩ a due = 1 := by rw [rAddE, if_pos h10]
    rw [rAddS, hE, if_neg (by decide), if_neg (by decide)]
    exact RPost.same (s := ⟨c, wt, inc, L⟩) hr hs.to
  · refine C.skip ?_
    refine X.next ?_
    refine C.seq ?_
    refine C.seq ?_
    refine C.region ?_
    refine R.ev rfl (E.move rfl) ?_
    refine R.call ⟨_, _, Try.func62, rfl, by kernel_rfl⟩ rfl rfl (rminute_any due _) ?_
    rintro _ _ ⟨rfl, rfl⟩
    refine R.ev rfl ((E.not rfl).isB (c := !(isMin due)) rfl) ?_
    refine R.done ?_
    refine X.keep [(2, _), (3, _), (4, _), (6, _), (14, _)] ⟨rfl, rfl, rfl, rfl, rfl, trivial⟩ ?_
    refine X.next ?_
    refine C.cbool rfl (fun h14 => ?_) (fun h14 => ?_)
    · refine C.seq ?_
      refine C.region ?_
      refine R.ev rfl (E.loadRowC rfl Try.underlying52 rfl Try.sz52 (by first | exact ⟨hs.ldA, by first | rfl | assumption | exact encV_len _ | exact Enc.len _ | exact len_ub (by assumption)⟩ | exact ⟨hs.ldP rfl, by first | rfl | assumption | exact encV_len _ | exact Enc.len _ | exact len_ub (by assumption)⟩ | exact ⟨hs.ldM rfl rfl, by first | rfl | assumption | exact encV_len _ | exact Enc.len _ | exact len_ub (by assumption)⟩ | exact ⟨hs.ldM (by assumption) (by first | rfl | assumption), by first | rfl | assumption | exact encV_len _ | exact Enc.len _ | exact len_ub (by assumption)⟩ | exact ⟨by assumption, by first | rfl | assumption | exact encV_len _ | exact Enc.len _ | exact len_ub (by assumption)⟩ | exact hs.ldp | exact At.partC (by assumption))) ?_
      first | refine R.cstoreAll hs rfl rfl Try.sz52 (by first | rfl | assumption | exact encV_len _ | exact Enc.len _ | exact len_ub (by assumption) | simp [*]) (by first | rfl | assumption | exact encV_len _ | exact Enc.len _ | exact len_ub (by assumption) | simp [*]) (by first | assumption | exact OneL.all | exact Enc.one _ | exact ub_all _ | (repeat' (first | refine List.forall_mem_cons.2 ⟨?_, ?_⟩ | exact List.forall_mem_nil _ | rfl | exact OneC.one | exact KRow.oneC' (by assumption)))) ?_ | refine R.cstore hs rfl rfl Try.sz52 (by first | rfl | assumption | exact encV_len _ | exact Enc.len _ | exact len_ub (by assumption) | simp [*]) (by simp [*]) (by first | assumption | exact OneL.all | exact Enc.one _ | exact ub_all _ | (repeat' (first | refine List.forall_mem_cons.2 ⟨?_, ?_⟩ | exact List.forall_mem_nil _ | rfl | exact OneC.one | exact KRow.oneC' (by assumption)))) ?_
      intro w4_1 hs
      try simp only [List.set_cons_zero, List.set_cons_succ] at hs
      refine R.ev rfl (E.assign rfl) ?_
      refine R.done ?_
      refine X.keep [(6, _), (7, _)] ⟨rfl, rfl, trivial⟩ ?_
      refine X.next ?_
      refine C.ret ?_
      refine X.thenRet ?_
      refine X.resCT rfl rfl Try.underlying52 rfl Try.sz52 (by first | exact ⟨hs.ldA, by first | rfl | assumption | exact encV_len _ | exact Enc.len _ | exact len_ub (by assumption)⟩ | exact ⟨hs.ldP rfl, by first | rfl | assumption | exact encV_len _ | exact Enc.len _ | exact len_ub (by assumption)⟩ | exact ⟨by assumption, by first | rfl | assumption | exact encV_len _ | exact Enc.len _ | exact len_ub (by assumption)⟩) rfl ?_
      have hE : rAddE ⟨c, wt, inc, L⟩ a due = 2 := by rw [rAddE, if_neg h10, if_pos (by simpa using h14)]
      rw [rAddS, hE, if_neg (by decide), if_neg (by decide)]
      exact RPost.same (s := ⟨c, wt, inc, L⟩) hr hs.to
    · refine C.skip ?_
      refine X.next ?_
      refine C.seq ?_
      refine C.seq ?_
      refine C.region ?_
      have h14' : ¬ isMin due = false := by simpa using h14
      refine R.ev rfl (E.loadRowC rfl Try.underlying52 rfl Try.sz52 (by first | exact ⟨hs.ldA, by first | rfl | assumption | exact encV_len _ | exact Enc.len _ | exact len_ub (by assumption)⟩ | exact ⟨hs.ldP rfl, by first | rfl | assumption | exact encV_len _ | exact Enc.len _ | exact len_ub (by assumption)⟩ | exact ⟨hs.ldM rfl rfl, by first | rfl | assumption | exact encV_len _ | exact Enc.len _ | exact len_ub (by assumption)⟩ | exact ⟨hs.ldM (by assumption) (by first | rfl | assumption), by first | rfl | assumption | exact encV_len _ | exact Enc.len _ | exact len_ub (by assumption)⟩ | exact ⟨by assumption, by first | rfl | assumption | exact encV_len _ | exact Enc.len _ | exact len_ub (by assumption)⟩ | exact hs.ldp | exact At.partC (by assumption))) ?_
      refine R.ev rfl (E.loadRowC rfl Try.underlying29 rfl Try.sz29 (by first | exact ⟨hs.ldA, by first | rfl | assumption | exact encV_len _ | exact Enc.len _ | exact len_ub (by assumption)⟩ | exact ⟨hs.ldP rfl, by first | rfl | assumption | exact encV_len _ | exact Enc.len _ | exact len_ub (by assumption)⟩ | exact ⟨hs.ldM rfl rfl, by first | rfl | assumption | exact encV_len _ | exact Enc.len _ | exact len_ub (by assumption)⟩ | exact ⟨hs.ldM (by assumption) (by first | rfl | assumption), by first | rfl | assumption | exact encV_len _ | exact Enc.len _ | exact len_ub (by assumption)⟩ | exact ⟨by assumption, by first | rfl | assumption | exact encV_len _ | exact Enc.len _ | exact len_ub (by assumption)⟩ | exact hs.ldp | exact At.partC (by assumption))) ?_
      refine R.call ⟨_, _, Try.func61, rfl, by kernel_rfl⟩ rfl rfl (rfind_any (s := ⟨c, wt, inc, L⟩) a hs hL) ?_
      rintro _ w5 ⟨rfl, hs⟩
      refine R.ev rfl ((E.geq rfl rfl).isB (c := rHas a L) rIdx_ge) ?_
      refine R.done ?_
      refine X.keep [(2, _), (3, _), (4, _), (6, _), (19, _)] ⟨rfl, rfl, rfl, rfl, rfl, trivial⟩ ?_
      refine X.next ?_
      refine C.cbool rfl (fun h19 => ?_) (fun h19 => ?_)
      · refine C.seq ?_
        refine C.region ?_
        refine R.ev rfl (E.loadRowC rfl Try.underlying52 rfl Try.sz52 (by first | exact ⟨hs.ldA, by first | rfl | assumption | exact encV_len _ | exact Enc.len _ | exact len_ub (by assumption)⟩ | exact ⟨hs.ldP rfl, by first | rfl | assumption | exact encV_len _ | exact Enc.len _ | exact len_ub (by assumption)⟩ | exact ⟨hs.ldM rfl rfl, by first | rfl | assumption | exact encV_len _ | exact Enc.len _ | exact len_ub (by assumption)⟩ | exact ⟨hs.ldM (by assumption) (by first | rfl | assumption), by first | rfl | assumption | exact encV_len _ | exact Enc.len _ | exact len_ub (by assumption)⟩ | exact ⟨by assumption, by first | rfl | assumption | exact encV_len _ | exact Enc.len _ | exact len_ub (by assumption)⟩ | exact hs.ldp | exact At.partC (by assumption))) ?_
        first | refine R.cstoreAll hs rfl rfl Try.sz52 (by first | rfl | assumption | exact encV_len _ | exact Enc.len _ | exact len_ub (by assumption) | simp [*]) (by first | rfl | assumption | exact encV_len _ | exact Enc.len _ | exact len_ub (by assumption) | simp [*]) (by first | assumption | exact OneL.all | exact Enc.one _ | exact ub_all _ | (repeat' (first | refine List.forall_mem_cons.2 ⟨?_, ?_⟩ | exact List.forall_mem_nil _ | rfl | exact OneC.one | exact KRow.oneC' (by assumption)))) ?_ | refine R.cstore hs rfl rfl Try.sz52 (by first | rfl | assumption | exact encV_len _ | exact Enc.len _ | exact len_ub (by assumption) | simp [*]) (by simp [*]) (by first | assumption | exact OneL.all | exact Enc.one _ | exact ub_all _ | (repeat' (first | refine List.forall_mem_cons.2 ⟨?_, ?_⟩ | exact List.forall_mem_nil _ | rfl | exact OneC.one | exact KRow.oneC' (by assumption)))) ?_
        intro w6_1 hs
        try simp only [List.set_cons_zero, List.set_cons_succ] at hs
        refine R.ev rfl (E.assign rfl) ?_
        refine R.done ?_
        refine X.keep [(6, _), (7, _)] ⟨rfl, rfl, trivial⟩ ?_
        refine X.next ?_
        refine C.ret ?_
        refine X.thenRet ?_
        refine X.resCT rfl rfl Try.underlying52 rfl Try.sz52 (by first | exact ⟨hs.ldA, by first | rfl | assumption | exact encV_len _ | exact Enc.len _ | exact len_ub (by assumption)⟩ | exact ⟨hs.ldP rfl, by first | rfl | assumption | exact encV_len _ | exact Enc.len _ | exact len_ub (by assumption)⟩ | exact ⟨by assumption, by first | rfl | assumption | exact encV_len _ | exact Enc.len _ | exact len_ub (by assumption)⟩) rfl ?_
        have hE : rAddE ⟨c, wt, inc, L⟩ a due = 7 := by rw [rAddE, if_neg h10, if_neg h14', if_pos h19]
        rw [rAddS, hE, if_neg (by decide), if_neg (by decide)]
        exact RPost.same (s := ⟨c, wt, inc, L⟩) hr hs.to
      · refine C.skip ?_
        refine X.next ?_
        refine C.seq ?_
        refine C.seq ?_
        refine C.region ?_
        first | refine R.ev rfl (E.fieldAddr0 3 rfl Try.underlying52 rfl Try.sz50 rfl) ?_ | refine R.ev rfl (E.fieldAddrN 3 rfl Try.underlying52 rfl Try.sz50 rfl) ?_
        refine R.ev rfl (E.load1 rfl Try.underlying50 rfl (by first | exact hs.ldc | exact hs.ld rfl | exact hs.ld (by assumption) | exact by assumption | exact At.cellC (by assumption))) ?_
        refine R.ev rfl (E.lenSl rfl Try.underlying50) ?_
        first | refine R.ev rfl (E.fieldAddr0 0 rfl Try.underlying52 rfl Try.sz3 rfl) ?_ | refine R.ev rfl (E.fieldAddrN 0 rfl Try.underlying52 rfl Try.sz3 rfl) ?_
        refine R.ev rfl (E.load1 rfl Try.underlying3 rfl (by first | exact hs.ldc | exact hs.ld rfl | exact hs.ld (by assumption) | exact by assumption | exact At.cellC (by assumption))) ?_
        refine R.ev rfl (E.geq rfl rfl) ?_
        refine R.done ?_
        refine X.keep [(2, _), (3, _), (4, _), (6, _), (26, _)] ⟨rfl, rfl, rfl, rfl, rfl, trivial⟩ ?_
        refine X.next ?_
        refine C.cdec rfl (fun h26 => ?_) (fun h26 => ?_)
        · refine C.seq ?_
          refine C.region ?_
          first | refine R.ev rfl (E.fieldAddr0 2 rfl Try.underlying52 rfl Try.sz4 rfl) ?_ | refine R.ev rfl (E.fieldAddrN 2 rfl Try.underlying52 rfl Try.sz4 rfl) ?_
          refine R.cstore1 hs rfl rfl Try.sz4 (by first | decide | simp [*]) (by first | rfl | exact OneC.one | exact KRow.oneC' (by assumption)) ?_
          intro w8_1 hs
          try simp only [List.set_cons_zero, List.set_cons_succ] at hs
          refine R.done ?_
          refine X.keep [(3, _), (6, _)] ⟨rfl, rfl, trivial⟩ ?_
          refine X.next ?_
          refine C.seq ?_
          refine C.region ?_
          refine R.ev rfl (E.loadRowC rfl Try.underlying52 rfl Try.sz52 (by first | exact ⟨hs.ldA, by first | rfl | assumption | exact encV_len _ | exact Enc.len _ | exact len_ub (by assumption)⟩ | exact ⟨hs.ldP rfl, by first | rfl | assumption | exact encV_len _ | exact Enc.len _ | exact len_ub (by assumption)⟩ | exact ⟨hs.ldM rfl rfl, by first | rfl | assumption | exact encV_len _ | exact Enc.len _ | exact len_ub (by assumption)⟩ | exact ⟨hs.ldM (by assumption) (by first | rfl | assumption), by first | rfl | assumption | exact encV_len _ | exact Enc.len _ | exact len_ub (by assumption)⟩ | exact ⟨by assumption, by first | rfl | assumption | exact encV_len _ | exact Enc.len _ | exact len_ub (by assumption)⟩ | exact hs.ldp | exact At.partC (by assumption))) ?_
          first | refine R.cstoreAll hs rfl rfl Try.sz52 (by first | rfl | assumption | exact encV_len _ | exact Enc.len _ | exact len_ub (by assumption) | simp [*]) (by first | rfl | assumption | exact encV_len _ | exact Enc.len _ | exact len_ub (by assumption) | simp [*]) (by first | assumption | exact OneL.all | exact Enc.one _ | exact ub_all _ | (repeat' (first | refine List.forall_mem_cons.2 ⟨?_, ?_⟩ | exact List.forall_mem_nil _ | rfl | exact OneC.one | exact KRow.oneC' (by assumption)))) ?_ | refine R.cstore hs rfl rfl Try.sz52 (by first | rfl | assumption | exact encV_len _ | exact Enc.len _ | exact len_ub (by assumption) | simp [*]) (by simp [*]) (by first | assumption | exact OneL.all | exact Enc.one _ | exact ub_all _ | (repeat' (first | refine List.forall_mem_cons.2 ⟨?_, ?_⟩ | exact List.forall_mem_nil _ | rfl | exact OneC.one | exact KRow.oneC' (by assumption)))) ?_
          intro w9_1 hs
          try simp only [List.set_cons_zero, List.set_cons_succ] at hs
          refine R.ev rfl (E.assign rfl) ?_
          refine R.done ?_
          refine X.keep [(6, _), (7, _)] ⟨rfl, rfl, trivial⟩ ?_
          refine X.next ?_
          refine C.ret ?_
          refine X.thenRet ?_
          refine X.resCT rfl rfl Try.underlying52 rfl Try.sz52 (by first | exact ⟨hs.ldA, by first | rfl | assumption | exact encV_len _ | exact Enc.len _ | exact len_ub (by assumption)⟩ | exact ⟨hs.ldP rfl, by first | rfl | assumption | exact encV_len _ | exact Enc.len _ | exact len_ub (by assumption)⟩ | exact ⟨by assumption, by first | rfl | assumption | exact encV_len _ | exact Enc.len _ | exact len_ub (by assumption)⟩) rfl ?_
          have hE : rAddE ⟨c, wt, inc, L⟩ a due = 9 := by rw [rAddE, if_neg h10, if_neg h14', if_neg (by rw [h19]; decide), if_pos h26]
          rw [rAddS, hE, if_pos rfl]
          exact RPost.same (s := ⟨c, wt, true, L⟩) hr hs.to
        · refine C.skip ?_
          refine X.next ?_
          refine C.seq ?_
          refine C.drawn (SatS hs) ([0, 3, 5], [2, 6, 7, 12]) (by kernel_rfl) ?_
          have hs := hs.drew
          first | refine D.evP 2 rfl (by kernel_rfl) rfl (fun _ => hs.to) (fun _ => E.fieldAddr0 3 rfl Try.underlying52 rfl Try.sz50 rfl) ?_ | refine D.evP 2 rfl (by kernel_rfl) rfl (fun _ => hs.to) (fun _ => E.fieldAddrN 3 rfl Try.underlying52 rfl Try.sz50 rfl) ?_
          refine D.evP 6 rfl (by kernel_rfl) rfl (fun _ => hs.to) (fun _ => E.move rfl) ?_
          refine D.ev 0 rfl (by kernel_rfl) rfl hs.to (fun _ hS => E.loadRowC rfl Try.underlying52 rfl Try.sz52 (by first | exact ⟨hS.ldA, by first | rfl | assumption | exact encV_len _ | exact Enc.len _ | exact len_ub (by assumption)⟩ | exact ⟨hS.ldP rfl, by first | rfl | assumption | exact encV_len _ | exact Enc.len _ | exact len_ub (by assumption)⟩ | exact ⟨hS.ldM rfl rfl, by first | rfl | assumption | exact encV_len _ | exact Enc.len _ | exact len_ub (by assumption)⟩ | exact ⟨hS.ldM (by assumption) (by first | rfl | assumption), by first | rfl | assumption | exact encV_len _ | exact Enc.len _ | exact len_ub (by assumption)⟩ | exact ⟨by assumption, by first | rfl | assumption | exact encV_len _ | exact Enc.len _ | exact len_ub (by assumption)⟩ | exact ⟨(by assumption : ∀ w', Sat _ w' _ → At w' _ _ _) _ hS, by first | rfl | assumption | exact encV_len _ | exact Enc.len _ | exact len_ub (by assumption)⟩ | exact hS.ldp | exact At.partC (by assumption) | exact At.partC ((by assumption : ∀ w', Sat _ w' _ → At w' _ _ _) _ hS))) ?_
          refine D.ev 3 rfl (by kernel_rfl) rfl hs.to (fun _ hS => E.load1 rfl Try.underlying50 rfl (by first | exact hS.ldc | exact hS.ld rfl | exact hS.ld (by assumption) | exact by assumption | exact At.cellC (by assumption) | exact At.cellC ((by assumption : ∀ w', Sat _ w' _ → At w' _ _ _) _ hS) | exact (by assumption : ∀ w', Sat _ w' _ → World.cell? w' _ = some _) _ hS)) ?_
          refine D.ev 5 rfl (by kernel_rfl) rfl hs.to (fun _ hS => E.loadRowC rfl Try.underlying29 rfl Try.sz29 (by first | exact ⟨hS.ldA, by first | rfl | assumption | exact encV_len _ | exact Enc.len _ | exact len_ub (by assumption)⟩ | exact ⟨hS.ldP rfl, by first | rfl | assumption | exact encV_len _ | exact Enc.len _ | exact len_ub (by assumption)⟩ | exact ⟨hS.ldM rfl rfl, by first | rfl | assumption | exact encV_len _ | exact Enc.len _ | exact len_ub (by assumption)⟩ | exact ⟨hS.ldM (by assumption) (by first | rfl | assumption), by first | rfl | assumption | exact encV_len _ | exact Enc.len _ | exact len_ub (by assumption)⟩ | exact ⟨by assumption, by first | rfl | assumption | exact encV_len _ | exact Enc.len _ | exact len_ub (by assumption)⟩ | exact ⟨(by assumption : ∀ w', Sat _ w' _ → At w' _ _ _) _ hS, by first | rfl | assumption | exact encV_len _ | exact Enc.len _ | exact len_ub (by assumption)⟩ | exact hS.ldp | exact At.partC (by assumption) | exact At.partC ((by assumption : ∀ w', Sat _ w' _ → At w' _ _ _) _ hS))) ?_
          refine D.evP 7 rfl (by kernel_rfl) rfl (fun _ => hs.to) (fun _ => E.buildG (r := encRE ⟨a, due, 0, false⟩) rfl Try.underlying90 Try.zr90 Try.ql90 (by kernel_rfl) (by kernel_rfl) ⟨⟨_, rfl, by first | rfl | exact vsz _ | simp [Value.cells, *]⟩, ⟨_, rfl, by first | rfl | exact vsz _ | simp [Value.cells, *]⟩, trivial⟩ (by first | rfl | simp [setF, fieldsOf, Value.cells])) ?_
          refine D.act2 1 8 rfl rfl (by kernel_rfl) ?_ ?_
          · refine R.sbuild0 (enc := encRE) hs Try.underlying50 Try.sz90 rfl ?_
            intro v30 w30 F30 r30 nn30 hs
            refine D.back hs.to ?_
            refine D.act2 4 8 rfl rfl (by kernel_rfl) ?_ ?_
            · refine R.cappSl hs rfl rfl Try.underlying50 Try.by90 (by rfl) rfl (by decide) (by first | omega | (simp only [List.length_append, List.length_cons, List.length_nil] at *; omega)) (by first | omega | (simp only [List.length_append, List.length_cons, List.length_nil] at *; omega)) ?_
              intro v33 w33 F33 r33 hs
              rw [List.nil_append] at r33
              refine D.back hs.to ?_
              refine D.act 8 rfl (by kernel_rfl) ?_
              refine R.buildSliceA rfl Try.underlying50 Try.sz90 Try.zr90 rfl (by first | rfl | assumption | exact encV_len _ | exact Enc.len _ | simp [*]) (by decide) (by decide) ?_
              intro b37 w37 n37
              have hs := hs.new n37
              refine D.back hs.to ?_
              refine D.act 9 rfl (by kernel_rfl) ?_
              refine R.capp1 (⟨a, due, 0, false⟩) hs rfl rfl Try.underlying50 Try.by90 (by rfl) rfl (by first | exact hs.ldA | exact hs.ldP rfl | exact by assumption) (by decide) (by first | omega | (simp only [List.length_append, List.length_cons, List.length_nil] at *; omega)) (by first | omega | (simp only [List.length_append, List.length_cons, List.length_nil] at *; omega)) ?_
              intro v38 w38 F38 r38 hs
              refine D.back hs.to ?_
              refine D.act 10 rfl (by kernel_rfl) ?_
              refine R.call ⟨_, _, Try.func72, rfl, by kernel_rfl⟩ rfl rfl (with_any ⟨c, wt, inc, L⟩ (.slice ad L.length cap) v38 rfl RowL.oneC hs) ?_
              rintro _ w39 ⟨rfl, hs⟩
              refine D.backT (by kernel_rfl) ?_
              refine D.act 11 rfl (by kernel_rfl) ?_
              first | refine R.cstoreAll hs rfl rfl Try.sz52 (by first | rfl | assumption | exact encV_len _ | exact Enc.len _ | exact len_ub (by assumption) | simp [*]) (by first | rfl | assumption | exact encV_len _ | exact Enc.len _ | exact len_ub (by assumption) | simp [*]) (by first | assumption | exact OneL.all | exact Enc.one _ | exact ub_all _ | (repeat' (first | refine List.forall_mem_cons.2 ⟨?_, ?_⟩ | exact List.forall_mem_nil _ | rfl | exact OneC.one | exact KRow.oneC' (by assumption)))) ?_ | refine R.cstore hs rfl rfl Try.sz52 (by first | rfl | assumption | exact encV_len _ | exact Enc.len _ | exact len_ub (by assumption) | simp [*]) (by simp [*]) (by first | assumption | exact OneL.all | exact Enc.one _ | exact ub_all _ | (repeat' (first | refine List.forall_mem_cons.2 ⟨?_, ?_⟩ | exact List.forall_mem_nil _ | rfl | exact OneC.one | exact KRow.oneC' (by assumption)))) ?_
              intro w10_11 hs
              try simp only [List.set_cons_zero, List.set_cons_succ] at hs
              refine D.backT (by kernel_rfl) ?_
              refine D.evP 12 rfl (by kernel_rfl) rfl (np (by kernel_rfl)) (fun _ => E.assign rfl) ?_
              refine D.done rfl (by kernel_rfl) ?_
              refine X.keep [(6, _), (7, _)] ⟨rfl, rfl, trivial⟩ ?_
              refine X.next ?_
              refine C.ret ?_
              refine X.resCT rfl rfl Try.underlying52 rfl Try.sz52 (by first | exact ⟨hs.ldA, by first | rfl | assumption | exact encV_len _ | exact Enc.len _ | exact len_ub (by assumption)⟩ | exact ⟨hs.ldP rfl, by first | rfl | assumption | exact encV_len _ | exact Enc.len _ | exact len_ub (by assumption)⟩ | exact ⟨by assumption, by first | rfl | assumption | exact encV_len _ | exact Enc.len _ | exact len_ub (by assumption)⟩) rfl ?_
              have hE : rAddE ⟨c, wt, inc, L⟩ a due = 0 := by rw [rAddE, if_neg h10, if_neg h14', if_neg (by rw [h19]; decide), if_neg h26]
              rw [rAddS, hE, if_neg (by decide), if_pos rfl]
              exact RPost.new (Hs := Hs) (s := ⟨c, wt, inc, L ++ [⟨a, due, 0, false⟩]⟩) r38 hs.to
            · refine R.buildSliceA rfl Try.underlying50 Try.sz90 Try.zr90 rfl (by first | rfl | assumption | exact encV_len _ | exact Enc.len _ | simp [*]) (by decide) (by decide) ?_
              intro b37 w37 n37
              have hs := hs.new n37
              refine D.back hs.to ?_
              refine D.act 4 rfl (by kernel_rfl) ?_
              refine R.cappSl hs rfl rfl Try.underlying50 Try.by90 (by rfl) rfl (by decide) (by first | omega | (simp only [List.length_append, List.length_cons, List.length_nil] at *; omega)) (by first | omega | (simp only [List.length_append, List.length_cons, List.length_nil] at *; omega)) ?_
              intro v33 w33 F33 r33 hs
              rw [List.nil_append] at r33
              refine D.back hs.to ?_
              refine D.act 9 rfl (by kernel_rfl) ?_
              refine R.capp1 (⟨a, due, 0, false⟩) hs rfl rfl Try.underlying50 Try.by90 (by rfl) rfl (by first | exact hs.ldA | exact hs.ldP rfl | exact by assumption) (by decide) (by first | omega | (simp only [List.length_append, List.length_cons, List.length_nil] at *; omega)) (by first | omega | (simp only [List.length_append, List.length_cons, List.length_nil] at *; omega)) ?_
              intro v38 w38 F38 r38 hs
              refine D.back hs.to ?_
              refine D.act 10 rfl (by kernel_rfl) ?_
              refine R.call ⟨_, _, Try.func72, rfl, by kernel_rfl⟩ rfl rfl (with_any ⟨c, wt, inc, L⟩ (.slice ad L.length cap) v38 rfl RowL.oneC hs) ?_
              rintro _ w39 ⟨rfl, hs⟩
              refine D.backT (by kernel_rfl) ?_
              refine D.act 11 rfl (by kernel_rfl) ?_
              first | refine R.cstoreAll hs rfl rfl Try.sz52 (by first | rfl | assumption | exact encV_len _ | exact Enc.len _ | exact len_ub (by assumption) | simp [*]) (by first | rfl | assumption | exact encV_len _ | exact Enc.len _ | exact len_ub (by assumption) | simp [*]) (by first | assumption | exact OneL.all | exact Enc.one _ | exact ub_all _ | (repeat' (first | refine List.forall_mem_cons.2 ⟨?_, ?_⟩ | exact List.forall_mem_nil _ | rfl | exact OneC.one | exact KRow.oneC' (by assumption)))) ?_ | refine R.cstore hs rfl rfl Try.sz52 (by first | rfl | assumption | exact encV_len _ | exact Enc.len _ | exact len_ub (by assumption) | simp [*]) (by simp [*]) (by first | assumption | exact OneL.all | exact Enc.one _ | exact ub_all _ | (repeat' (first | refine List.forall_mem_cons.2 ⟨?_, ?_⟩ | exact List.forall_mem_nil _ | rfl | exact OneC.one | exact KRow.oneC' (by assumption)))) ?_
              intro w10_11 hs
              try simp only [List.set_cons_zero, List.set_cons_succ] at hs
              refine D.backT (by kernel_rfl) ?_
              refine D.evP 12 rfl (by kernel_rfl) rfl (np (by kernel_rfl)) (fun _ => E.assign rfl) ?_
              refine D.done rfl (by kernel_rfl) ?_
              refine X.keep [(6, _), (7, _)] ⟨rfl, rfl, trivial⟩ ?_
              refine X.next ?_
              refine C.ret ?_
              refine X.resCT rfl rfl Try.underlying52 rfl Try.sz52 (by first | exact ⟨hs.ldA, by first | rfl | assumption | exact encV_len _ | exact Enc.len _ | exact len_ub (by assumption)⟩ | exact ⟨hs.ldP rfl, by first | rfl | assumption | exact encV_len _ | exact Enc.len _ | exact len_ub (by assumption)⟩ | exact ⟨by assumption, by first | rfl | assumption | exact encV_len _ | exact Enc.len _ | exact len_ub (by assumption)⟩) rfl ?_
              have hE : rAddE ⟨c, wt, inc, L⟩ a due = 0 := by rw [rAddE, if_neg h10, if_neg h14', if_neg (by rw [h19]; decide), if_neg h26]
              rw [rAddS, hE, if_neg (by decide), if_pos rfl]
              exact RPost.new (Hs := Hs) (s := ⟨c, wt, inc, L ++ [⟨a, due, 0, false⟩]⟩) r38 hs.to
          · refine R.buildSliceA rfl Try.underlying50 Try.sz90 Try.zr90 rfl (by first | rfl | assumption | exact encV_len _ | exact Enc.len _ | simp [*]) (by decide) (by decide) ?_
            intro b37 w37 n37
            have hs := hs.new n37
            refine D.back hs.to ?_
            refine D.act 1 rfl (by kernel_rfl) ?_
            refine R.sbuild0 (enc := encRE) hs Try.underlying50 Try.sz90 rfl ?_
            intro v30 w30 F30 r30 nn30 hs
            refine D.back hs.to ?_
            refine D.act 4 rfl (by kernel_rfl) ?_
            refine R.cappSl hs rfl rfl Try.underlying50 Try.by90 (by rfl) rfl (by decide) (by first | omega | (simp only [List.length_append, List.length_cons, List.length_nil] at *; omega)) (by first | omega | (simp only [List.length_append, List.length_cons, List.length_nil] at *; omega)) ?_
            intro v33 w33 F33 r33 hs
            rw [List.nil_append] at r33
            refine D.back hs.to ?_
            refine D.act 9 rfl (by kernel_rfl) ?_
            refine R.capp1 (⟨a, due, 0, false⟩) hs rfl rfl Try.underlying50 Try.by90 (by rfl) rfl (by first | exact hs.ldA | exact hs.ldP rfl | exact by assumption) (by decide) (by first | omega | (simp only [List.length_append, List.length_cons, List.length_nil] at *; omega)) (by first | omega | (simp only [List.length_append, List.length_cons, List.length_nil] at *; omega)) ?_
            intro v38 w38 F38 r38 hs
            refine D.back hs.to ?_
            refine D.act 10 rfl (by kernel_rfl) ?_
            refine R.call ⟨_, _, Try.func72, rfl, by kernel_rfl⟩ rfl rfl (with_any ⟨c, wt, inc, L⟩ (.slice ad L.length cap) v38 rfl RowL.oneC hs) ?_
            rintro _ w39 ⟨rfl, hs⟩
            refine D.backT (by kernel_rfl) ?_
            refine D.act 11 rfl (by kernel_rfl) ?_
            first | refine R.cstoreAll hs rfl rfl Try.sz52 (by first | rfl | assumption | exact encV_len _ | exact Enc.len _ | exact len_ub (by assumption) | simp [*]) (by first | rfl | assumption | exact encV_len _ | exact Enc.len _ | exact len_ub (by assumption) | simp [*]) (by first | assumption | exact OneL.all | exact Enc.one _ | exact ub_all _ | (repeat' (first | refine List.forall_mem_cons.2 ⟨?_, ?_⟩ | exact List.forall_mem_nil _ | rfl | exact OneC.one | exact KRow.oneC' (by assumption)))) ?_ | refine R.cstore hs rfl rfl Try.sz52 (by first | rfl | assumption | exact encV_len _ | exact Enc.len _ | exact len_ub (by assumption) | simp [*]) (by simp [*]) (by first | assumption | exact OneL.all | exact Enc.one _ | exact ub_all _ | (repeat' (first | refine List.forall_mem_cons.2 ⟨?_, ?_⟩ | exact List.forall_mem_nil _ | rfl | exact OneC.one | exact KRow.oneC' (by assumption)))) ?_
            intro w10_11 hs
            try simp only [List.set_cons_zero, List.set_cons_succ] at hs
            refine D.backT (by kernel_rfl) ?_
            refine D.evP 12 rfl (by kernel_rfl) rfl (np (by kernel_rfl)) (fun _ => E.assign rfl) ?_
            refine D.done rfl (by kernel_rfl) ?_
            refine X.keep [(6, _), (7, _)] ⟨rfl, rfl, trivial⟩ ?_
            refine X.next ?_
            refine C.ret ?_
            refine X.resCT rfl rfl Try.underlying52 rfl Try.sz52 (by first | exact ⟨hs.ldA, by first | rfl | assumption | exact encV_len _ | exact Enc.len _ | exact len_ub (by assumption)⟩ | exact ⟨hs.ldP rfl, by first | rfl | assumption | exact encV_len _ | exact Enc.len _ | exact len_ub (by assumption)⟩ | exact ⟨by assumption, by first | rfl | assumption | exact encV_len _ | exact Enc.len _ | exact len_ub (by assumption)⟩) rfl ?_
            have hE : rAddE ⟨c, wt, inc, L⟩ a due = 0 := by rw [rAddE, if_neg h10, if_neg h14', if_neg (by rw [h19]; decide), if_neg h26]
            rw [rAddS, hE, if_neg (by decide), if_pos rfl]
            exact RPost.new (Hs := Hs) (s := ⟨c, wt, inc, L ++ [⟨a, due, 0, false⟩]⟩) r38 hs.to
/-! Remove -/
def rRemL (a : Vec 32) : List RE → List RE
  | [] => []
  | e :: L => if rIs a e then L else e :: rRemL a L
theorem rRemL_at {a : Vec 32} : ∀ {L : List RE} {i : Nat} {o : RE}, L[i]? = some o → rIs a o = true → (∀ j, j < i → ∀ z, L[j]? = some z → rIs a z = false) → rRemL a L = L.take i ++ L.drop (i + 1)
  | [], i, o, h, _, _ => by simp at h
  | z :: L, 0, o, h, hp, _ => by simp at h; subst h; simp only [rRemL, hp, if_true]; simp
  | z :: L, i + 1, o, h, hp, hno => by
    have hz := hno 0 (by omega) z rfl
    rw [rRemL, if_neg (by rw [hz]; decide), rRemL_at (by simpa using h) hp (fun j hj y hy => hno (j + 1) (by omega) y (by simpa using hy))]
    simp
theorem rHas_idx {a : Vec 32} {L : List RE} (h : rHas a L = true) : ∃ i o, idxP (rIs a) L = ((i : Nat) : Int) ∧ L[i]? = some o ∧ rIs a o = true ∧ ∀ j, j < i → ∀ z, L[j]? = some z → rIs a z = false := by
  have := rIdx_ge (a := a) (L := L)
  rw [h, decide_eq_true_iff] at this
  exact idxP_ge this
def rRemS (s : RB) (a : Vec 32) : RB := if rHas a s.L then { s with L := rRemL a s.L } else s
theorem rrem_any (a : Vec 32) (hs : Sat K w Hs) [hr : KRow encRE 35 K v s.L] (hL : s.L.length ≤ 1000000) : Ret Try.prog 68 #[s.v v, idV a.1] w fun r w' => RPost K Hs (rRemS s a) (fun b => .tuple #[b, .bool (rHas a s.L)]) r w' := by
  obtain ⟨c, wt, inc, L⟩ := s
  simp only at hr hL ⊢
  obtain ⟨ad, cap, rfl, hsl, hc⟩ := hr.ex
  have e1 := encV_len a
  refine Ret.enter (n := 19) (args := [.agg #[.int .i64 c, .int .i64 wt, .bool inc, .slice ad L.length cap], idV a.1]) Try.func68 rfl rfl ?_
  refine C.keep [(0, _), (1, _)] ⟨rfl, rfl, trivial⟩ ?_
  refine C.seq ?_
  refine C.region ?_
  refine R.sboxA hs rfl rfl ?_
  intro b2 w2 hs
  refine R.sboxA hs rfl rfl ?_
  intro b3 w3 hs
  refine R.sallocA hs Try.zr52 rfl ?_
  intro b4 w4 hs
  refine R.ev rfl (E.assign rfl) ?_
  refine R.done ?_
  refine X.keep [(2, _), (3, _), (4, _)] ⟨rfl, rfl, rfl, trivial⟩ ?_
  refine X.next ?_
  refine C.seq ?_
  refine C.region ?_
  refine R.ev rfl (E.loadRowC rfl Try.underlying52 rfl Try.sz52 (by first | exact ⟨hs.ldA, by first | rfl | assumption | exact encV_len _ | exact Enc.len _ | exact len_ub (by assumption)⟩ | exact ⟨hs.ldP rfl, by first | rfl | assumption | exact encV_len _ | exact Enc.len _ | exact len_ub (by assumption)⟩ | exact ⟨hs.ldM rfl rfl, by first | rfl | assumption | exact encV_len _ | exact Enc.len _ | exact len_ub (by assumption)⟩ | exact ⟨hs.ldM (by assumption) (by first | rfl | assumption), by first | rfl | assumption | exact encV_len _ | exact Enc.len _ | exact len_ub (by assumption)⟩ | exact ⟨by assumption, by first | rfl | assumption | exact encV_len _ | exact Enc.len _ | exact len_ub (by assumption)⟩ | exact hs.ldp | exact At.partC (by assumption))) ?_
  refine R.ev rfl (E.loadRowC rfl Try.underlying29 rfl Try.sz29 (by first | exact ⟨hs.ldA, by first | rfl | assumption | exact encV_len _ | exact Enc.len _ | exact len_ub (by assumption)⟩ | exact ⟨hs.ldP rfl, by first | rfl | assumption | exact encV_len _ | exact Enc.len _ | exact len_ub (by assumption)⟩ | exact ⟨hs.ldM rfl rfl, by first | rfl | assumption | exact encV_len _ | exact Enc.len _ | exact len_ub (by assumption)⟩ | exact ⟨hs.ldM (by assumption) (by first | rfl | assumption), by first | rfl | assumption | exact encV_len _ | exact Enc.len _ | exact len_ub (by assumption)⟩ | exact ⟨by assumption, by first | rfl | assumption | exact encV_len _ | exact Enc.len _ | exact len_ub (by assumption)⟩ | exact hs.ldp | exact At.partC (by assumption))) ?_
  refine R.call ⟨_, _, Try.func61, rfl, by kernel_rfl⟩ rfl rfl (rfind_any (s := ⟨c, wt, inc, L⟩) a hs hL) ?_
  rintro _ w5 ⟨rfl, hs⟩
  refine R.ev rfl (E.assign rfl) ?_
  refine R.done ?_
  refine X.keep [(2, _), (4, _), (6, _)] ⟨rfl, rfl, rfl, trivial⟩ ?_
  refine X.next ?_
  refine C.seq ?_
  refine C.seq ?_
  refine C.region ?_
  refine R.ev rfl (E.move rfl) ?_
  refine R.ev rfl ((E.lss rfl rfl).isB (c := !rHas a L) rIdx_lt) ?_
  refine R.done ?_
  refine X.keep [(2, _), (4, _), (6, _), (11, _)] ⟨rfl, rfl, rfl, rfl, trivial⟩ ?_
  refine X.next ?_
  refine C.cbool rfl (fun h11 => ?_) (fun h11 => ?_)
  · have hh : rHas a L = false := by simpa using h11
    refine C.seq ?_
    refine C.region ?_
    refine R.ev rfl (E.loadRowC rfl Try.underlying52 rfl Try.sz52 (by first | exact ⟨hs.ldA, by first | rfl | assumption | exact encV_len _ | exact Enc.len _ | exact len_ub (by assumption)⟩ | exact ⟨hs.ldP rfl, by first | rfl | assumption | exact encV_len _ | exact Enc.len _ | exact len_ub (by assumption)⟩ | exact ⟨hs.ldM rfl rfl, by first | rfl | assumption | exact encV_len _ | exact Enc.len _ | exact len_ub (by assumption)⟩ | exact ⟨hs.ldM (by assumption) (by first | rfl | assumption), by first | rfl | assumption | exact encV_len _ | exact Enc.len _ | exact len_ub (by assumption)⟩ | exact ⟨by assumption, by first | rfl | assumption | exact encV_len _ | exact Enc.len _ | exact len_ub (by assumption)⟩ | exact hs.ldp | exact At.partC (by assumption))) ?_
    first | refine R.cstoreAll hs rfl rfl Try.sz52 (by first | rfl | assumption | exact encV_len _ | exact Enc.len _ | exact len_ub (by assumption) | simp [*]) (by first | rfl | assumption | exact encV_len _ | exact Enc.len _ | exact len_ub (by assumption) | simp [*]) (by first | assumption | exact OneL.all | exact Enc.one _ | exact ub_all _ | (repeat' (first | refine List.forall_mem_cons.2 ⟨?_, ?_⟩ | exact List.forall_mem_nil _ | rfl | exact OneC.one | exact KRow.oneC' (by assumption)))) ?_ | refine R.cstore hs rfl rfl Try.sz52 (by first | rfl | assumption | exact encV_len _ | exact Enc.len _ | exact len_ub (by assumption) | simp [*]) (by simp [*]) (by first | assumption | exact OneL.all | exact Enc.one _ | exact ub_all _ | (repeat' (first | refine List.forall_mem_cons.2 ⟨?_, ?_⟩ | exact List.forall_mem_nil _ | rfl | exact OneC.one | exact KRow.oneC' (by assumption)))) ?_
    intro w3_1 hs
    try simp only [List.set_cons_zero, List.set_cons_succ] at hs
    refine R.ev rfl (E.assign rfl) ?_
    refine R.done ?_
    refine X.keep [(4, _), (5, _)] ⟨rfl, rfl, trivial⟩ ?_
    refine X.next ?_
    refine C.ret ?_
    refine X.thenRet ?_
    refine X.resCT rfl rfl Try.underlying52 rfl Try.sz52 (by first | exact ⟨hs.ldA, by first | rfl | assumption | exact encV_len _ | exact Enc.len _ | exact len_ub (by assumption)⟩ | exact ⟨hs.ldP rfl, by first | rfl | assumption | exact encV_len _ | exact Enc.len _ | exact len_ub (by assumption)⟩ | exact ⟨by assumption, by first | rfl | assumption | exact encV_len _ | exact Enc.len _ | exact len_ub (by assumption)⟩) rfl ?_
    rw [rRemS, if_neg (by rw [hh]; decide), hh]
    exact RPost.same (s := ⟨c, wt, inc, L⟩) hr hs.to
  · have hh : rHas a L = true := by simpa using h11
    obtain ⟨i, o, hi, ho, hp, hno⟩ := rHas_idx hh
    rw [show idxP (rIs a) ({ cap := c, wait := wt, inc := inc, L := L } : RB).L = ((i : Nat) : Int) from hi]
    have hil := (List.getElem?_eq_some_iff.1 ho).1
    refine C.skip ?_
    refine X.next ?_
    refine C.seq ?_
    refine C.drawn (SatS hs) ([0, 2], [1, 3, 7]) (by kernel_rfl) ?_
    have hs := hs.drew
    first | refine D.evP 1 rfl (by kernel_rfl) rfl (fun _ => hs.to) (fun _ => E.fieldAddr0 3 rfl Try.underlying52 rfl Try.sz50 rfl) ?_ | refine D.evP 1 rfl (by kernel_rfl) rfl (fun _ => hs.to) (fun _ => E.fieldAddrN 3 rfl Try.underlying52 rfl Try.sz50 rfl) ?_
    refine D.evP 3 rfl (by kernel_rfl) rfl (fun _ => hs.to) (fun _ => E.move rfl) ?_
    refine D.ev 0 rfl (by kernel_rfl) rfl hs.to (fun _ hS => E.loadRowC rfl Try.underlying52 rfl Try.sz52 (by first | exact ⟨hS.ldA, by first | rfl | assumption | exact encV_len _ | exact Enc.len _ | exact len_ub (by assumption)⟩ | exact ⟨hS.ldP rfl, by first | rfl | assumption | exact encV_len _ | exact Enc.len _ | exact len_ub (by assumption)⟩ | exact ⟨hS.ldM rfl rfl, by first | rfl | assumption | exact encV_len _ | exact Enc.len _ | exact len_ub (by assumption)⟩ | exact ⟨hS.ldM (by assumption) (by first | rfl | assumption), by first | rfl | assumption | exact encV_len _ | exact Enc.len _ | exact len_ub (by assumption)⟩ | exact ⟨by assumption, by first | rfl | assumption | exact encV_len _ | exact Enc.len _ | exact len_ub (by assumption)⟩ | exact ⟨(by assumption : ∀ w', Sat _ w' _ → At w' _ _ _) _ hS, by first | rfl | assumption | exact encV_len _ | exact Enc.len _ | exact len_ub (by assumption)⟩ | exact hS.ldp | exact At.partC (by assumption) | exact At.partC ((by assumption : ∀ w', Sat _ w' _ → At w' _ _ _) _ hS))) ?_
    refine D.ev 2 rfl (by kernel_rfl) rfl hs.to (fun _ hS => E.load1 rfl Try.underlying50 rfl (by first | exact hS.ldc | exact hS.ld rfl | exact hS.ld (by assumption) | exact by assumption | exact At.cellC (by assumption) | exact At.cellC ((by assumption : ∀ w', Sat _ w' _ → At w' _ _ _) _ hS) | exact (by assumption : ∀ w', Sat _ w' _ → World.cell? w' _ = some _) _ hS)) ?_
    refine D.act 4 rfl (by kernel_rfl) ?_
    refine R.call ⟨_, _, Try.func76, rfl, by kernel_rfl⟩ rfl rfl (without_any (L := L) i hs hil hL) ?_
    rintro v17 w17 ⟨F17, r17, hs⟩
    refine D.back hs.to ?_
    refine D.act 5 rfl (by kernel_rfl) ?_
    refine R.call ⟨_, _, Try.func72, rfl, by kernel_rfl⟩ rfl rfl (with_any ⟨c, wt, inc, L⟩ (.slice ad L.length cap) v17 rfl RowL.oneC hs) ?_
    rintro _ w18 ⟨rfl, hs⟩
    refine D.backT (by kernel_rfl) ?_
    refine D.act 6 rfl (by kernel_rfl) ?_
    first | refine R.cstoreAll hs rfl rfl Try.sz52 (by first | rfl | assumption | exact encV_len _ | exact Enc.len _ | exact len_ub (by assumption) | simp [*]) (by first | rfl | assumption | exact encV_len _ | exact Enc.len _ | exact len_ub (by assumption) | simp [*]) (by first | assumption | exact OneL.all | exact Enc.one _ | exact ub_all _ | (repeat' (first | refine List.forall_mem_cons.2 ⟨?_, ?_⟩ | exact List.forall_mem_nil _ | rfl | exact OneC.one | exact KRow.oneC' (by assumption)))) ?_ | refine R.cstore hs rfl rfl Try.sz52 (by first | rfl | assumption | exact encV_len _ | exact Enc.len _ | exact len_ub (by assumption) | simp [*]) (by simp [*]) (by first | assumption | exact OneL.all | exact Enc.one _ | exact ub_all _ | (repeat' (first | refine List.forall_mem_cons.2 ⟨?_, ?_⟩ | exact List.forall_mem_nil _ | rfl | exact OneC.one | exact KRow.oneC' (by assumption)))) ?_
    intro w4_6 hs
    try simp only [List.set_cons_zero, List.set_cons_succ] at hs
    refine D.backT (by kernel_rfl) ?_
    refine D.evP 7 rfl (by kernel_rfl) rfl (np (by kernel_rfl)) (fun _ => E.assign rfl) ?_
    refine D.done rfl (by kernel_rfl) ?_
    refine X.keep [(4, _), (5, _)] ⟨rfl, rfl, trivial⟩ ?_
    refine X.next ?_
    refine C.ret ?_
    refine X.resCT rfl rfl Try.underlying52 rfl Try.sz52 (by first | exact ⟨hs.ldA, by first | rfl | assumption | exact encV_len _ | exact Enc.len _ | exact len_ub (by assumption)⟩ | exact ⟨hs.ldP rfl, by first | rfl | assumption | exact encV_len _ | exact Enc.len _ | exact len_ub (by assumption)⟩ | exact ⟨by assumption, by first | rfl | assumption | exact encV_len _ | exact Enc.len _ | exact len_ub (by assumption)⟩) rfl ?_
    rw [rRemS, if_pos hh, hh]
    exact RPost.new (Hs := Hs) (s := ⟨c, wt, inc, rRemL a L⟩) (by rw [rRemL_at ho hp hno]; exact r17) hs.to
/-! Next -/
def pickL {α : Type} (q : α → Bool) (f : α → Vec 32) (most : Int) (L : List α) : List (Vec 32) := ((L.filter q).map f).take most.toNat
section pick
variable {α : Type} {q : α → Bool} {f : α → Vec 32} {most : Int} {L : List α}
theorem pickL_snoc {k : Nat} {y : α} (h : L[k]? = some y) (hl : ¬ most ≤ (pickL q f most (L.take k)).length) : pickL q f most (L.take (k + 1)) = pickL q f most (L.take k) ++ (if q y then [f y] else []) := by
  unfold pickL at hl ⊢
  rw [take_snoc h, List.filter_append, List.map_append]
  have h1 : ((L.take k).filter q).length < most.toNat := by
    rcases Nat.lt_or_ge ((L.take k).filter q).length most.toNat with h' | h'
    · exact h'
    · exfalso; apply hl
      rw [List.length_take, List.length_map, Nat.min_eq_left h']; omega
  cases hy : q y
  · simp [hy]
  · simp only [List.filter_cons, hy, if_true, List.filter_nil, List.map_cons, List.map_nil]
    rw [List.take_of_length_le (l := ((L.take k).filter q).map f ++ [f y]) (by rw [List.length_append, List.length_map]; simp only [List.length_cons, List.length_nil]; omega), List.take_of_length_le (l := ((L.take k).filter q).map f) (by rw [List.length_map]; omega)]
theorem pickL_stop {k : Nat} (hl : most ≤ (pickL q f most (L.take k)).length) : pickL q f most L = pickL q f most (L.take k) := by
  unfold pickL at hl ⊢
  have e : L.filter q = (L.take k).filter q ++ (L.drop k).filter q := by rw [← List.filter_append, List.take_append_drop]
  rw [e, List.map_append, List.take_append_of_le_length]
  rw [List.length_take] at hl
  rw [List.length_map] at hl ⊢
  omega
theorem pickL_le : (pickL q f most L).length ≤ L.length := by
  unfold pickL; rw [List.length_take, List.length_map]
  have := List.length_filter_le q L; omega
end pick
theorem of_most {n : Nat} {most : Int} (h : decide ((n : Int) < most) = false) : most ≤ (n : Int) := by have := of_decide_eq_false h; omega
theorem of_len {k n : Nat} (hk : k ≤ n) (h : decide ((k : Int) < (n : Int)) = false) : k = n := by have := of_decide_eq_false h; omega
theorem pick_end {α : Type} {q : α → Bool} {f : α → Vec 32} {most : Int} {L : List α} {k : Nat} (h : k = L.length) : pickL q f most L = pickL q f most (L.take k) := by rw [h, List.take_length]
def rNxt (now : Int) (e : RE) : Bool := !e.out && decide (e.due ≤ now)
theorem rnext_any (now most : Int) (hs : Sat K w Hs) [hr : KRow encRE 35 K v s.L] (hL : s.L.length ≤ 1000000) : Ret Try.prog 70 #[s.v v, .int .i64 now, .int .i64 most] w fun r w' => ∃ F', RowL 29 encV 32 r (pickL (rNxt now) RE.id most s.L) F' ∧ Sat K w' (F' :: Hs) := by
  obtain ⟨c, wt, inc, L⟩ := s
  simp only at hr hL ⊢
  obtain ⟨ad, cap, rfl, hsl, hc⟩ := hr.ex
  refine Ret.enter (n := 49) (args := [.agg #[.int .i64 c, .int .i64 wt, .bool inc, .slice ad L.length cap], .int .i64 now, .int .i64 most]) Try.func70 rfl rfl ?_
  refine C.keep [(0, _), (1, _), (2, _)] ⟨rfl, rfl, rfl, trivial⟩ ?_
  refine C.seq ?_
  refine C.region ?_
  refine R.sboxA hs rfl rfl ?_
  intro b3 w3 hs
  refine R.ev rfl (E.assign rfl) ?_
  refine R.done ?_
  refine X.keep [(1, _), (2, _), (3, _)] ⟨rfl, rfl, rfl, trivial⟩ ?_
  refine X.next ?_
  refine C.seq ?_
  refine C.region ?_
  refine R.ev rfl (E.assign rfl) ?_
  refine R.done ?_
  refine X.keep [(1, _), (2, _), (3, _), (7, _)] ⟨rfl, rfl, rfl, rfl, trivial⟩ ?_
  refine X.next ?_
  refine C.seq ?_
  refine C.seq ?_
  refine C.region ?_
  refine R.ev rfl (E.assign rfl) ?_
  refine R.done ?_
  refine X.keep [(1, _), (2, _), (3, _), (7, _), (8, _)] ⟨rfl, rfl, rfl, rfl, rfl, trivial⟩ ?_
  refine X.next ?_
  refine C.block ?_
  refine C.loop (T := Nat × Value × Hl) [(1, _), (2, _), (3, _)] (fun (k, v, _) => [(7, v), (8, .int .i64 (k : Nat))]) (fun (k, v, F') w' => k ≤ L.length ∧ RowL 29 encV 32 v (pickL (rNxt now) RE.id most (L.take k)) F' ∧ Sat K w' (F' :: row b3 52 [.int .i64 c, .int .i64 wt, .bool inc, .slice ad L.length cap] :: Hs)) (fun (k, _) => L.length - k) ((0, .slice none 0 0, [])) ⟨rfl, rfl, rfl, rfl, rfl, trivial⟩ ⟨by omega, by simp [pickL]; exact RowL.nil _ _ _, hs.nil⟩ ?_
  rintro ⟨k, v, F'⟩ w1 ⟨hk, r1, hs⟩
  have hlen : (pickL (rNxt now) RE.id most (L.take k)).length ≤ 1000000 := by have := pickL_le (q := rNxt now) (f := RE.id) (most := most) (L := L.take k); simp at this; omega
  obtain ⟨ad1, cap1, rfl, _⟩ := r1.val
  refine C.keep [(1, _), (2, _), (3, _), (7, _), (8, _)] ⟨rfl, rfl, rfl, rfl, rfl, trivial⟩ ?_
  refine C.seq ?_
  refine C.seq ?_
  refine C.region ?_
  refine R.ev rfl (E.move rfl) ?_
  first | refine R.ev rfl (E.fieldAddr0 3 rfl Try.underlying52 rfl Try.sz50 rfl) ?_ | refine R.ev rfl (E.fieldAddrN 3 rfl Try.underlying52 rfl Try.sz50 rfl) ?_
  refine R.ev rfl (E.load1 rfl Try.underlying50 rfl (by first | exact hs.ldc | exact hs.ld rfl | exact hs.ld (by assumption) | exact by assumption | exact At.cellC (by assumption))) ?_
  refine R.ev rfl (E.lenSl rfl Try.underlying50) ?_
  refine R.ev rfl (E.lss rfl rfl) ?_
  refine R.ev rfl (E.move rfl) ?_
  refine R.split 14 rfl (fun h14 => ?_) (fun h14 => ?_)
  · refine R.gyes rfl rfl ?_
    refine R.ev rfl (E.move rfl) ?_
    refine R.gyes rfl rfl ?_
    refine R.ev rfl (E.lenSl rfl Try.underlying31) ?_
    refine R.gyes rfl rfl ?_
    refine R.ev rfl (E.move rfl) ?_
    refine R.gyes rfl rfl ?_
    refine R.ev rfl (E.lss rfl rfl) ?_
    refine R.ev rfl (E.pickT rfl rfl) ?_
    refine R.done ?_
    refine X.keep [(1, _), (2, _), (3, _), (7, _), (8, _), (19, _)] ⟨rfl, rfl, rfl, rfl, rfl, rfl, trivial⟩ ?_
    refine X.next ?_
    refine C.cbool rfl (fun h19 => ?_) (fun h19 => ?_)
    · refine C.skip ?_
      refine X.next ?_
      refine C.seq ?_
      refine C.block ?_
      refine C.seq ?_
      refine C.region ?_
      have hkl : k < L.length := by have := of_decide_eq_true h14; omega
      have h24 : ¬ most ≤ (pickL (rNxt now) RE.id most (L.take k)).length := by have := of_decide_eq_true h19; omega
      obtain ⟨y, bk_y, of_y, hy, my, ly, rfl, Ay⟩ := hs.el (i := k) (ad := ad) (n := L.length) (c := cap) (by omega)
      have ay := Ay _ hs
      have e2 := encV_len y.id
      first | refine R.ev rfl (E.fieldAddr0 3 rfl Try.underlying52 rfl Try.sz50 rfl) ?_ | refine R.ev rfl (E.fieldAddrN 3 rfl Try.underlying52 rfl Try.sz50 rfl) ?_
      refine R.ev rfl (E.load1 rfl Try.underlying50 rfl (by first | exact hs.ldc | exact hs.ld rfl | exact hs.ld (by assumption) | exact by assumption | exact At.cellC (by assumption))) ?_
      refine R.ev rfl (E.move rfl) ?_
      refine R.ev rfl (E.indexAddr rfl rfl Try.underlying50 Try.sz90 rfl (by first | omega | decide)) ?_
      first | refine R.ev rfl (E.fieldAddr0 34 rfl Try.underlying90 rfl Try.sz4 rfl) ?_ | refine R.ev rfl (E.fieldAddrN 34 rfl Try.underlying90 rfl Try.sz4 rfl) ?_
      refine R.ev rfl (E.load1 rfl Try.underlying4 rfl (by first | exact hs.ldc | exact hs.ld rfl | exact hs.ld (by assumption) | exact by assumption | exact At.cellC (by assumption))) ?_
      refine R.ev rfl ((E.not rfl).isB (c := !y.out) rfl) ?_
      refine R.ev rfl (E.move rfl) ?_
      refine R.split 29 rfl (fun h29 => ?_) (fun h29 => ?_)
      · refine R.gyes rfl rfl ?_
        first | refine R.ev rfl (E.fieldAddr0 3 rfl Try.underlying52 rfl Try.sz50 rfl) ?_ | refine R.ev rfl (E.fieldAddrN 3 rfl Try.underlying52 rfl Try.sz50 rfl) ?_
        refine R.gyes rfl rfl ?_
        refine R.ev rfl (E.load1 rfl Try.underlying50 rfl (by first | exact hs.ldc | exact hs.ld rfl | exact hs.ld (by assumption) | exact by assumption | exact At.cellC (by assumption))) ?_
        refine R.gyes rfl rfl ?_
        refine R.ev rfl (E.move rfl) ?_
        refine R.gyes rfl rfl ?_
        refine R.ev rfl (E.indexAddr rfl rfl Try.underlying50 Try.sz90 rfl (by first | omega | decide)) ?_
        refine R.gyes rfl rfl ?_
        first | refine R.ev rfl (E.fieldAddr0 32 rfl Try.underlying90 rfl Try.sz3 rfl) ?_ | refine R.ev rfl (E.fieldAddrN 32 rfl Try.underlying90 rfl Try.sz3 rfl) ?_
        refine R.gyes rfl rfl ?_
        refine R.ev rfl (E.load1 rfl Try.underlying3 rfl (by first | exact hs.ldc | exact hs.ld rfl | exact hs.ld (by assumption) | exact by assumption | exact At.cellC (by assumption))) ?_
        refine R.gyes rfl rfl ?_
        refine R.ev rfl (E.move rfl) ?_
        refine R.gyes rfl rfl ?_
        refine R.ev rfl (E.leq rfl rfl) ?_
        refine R.ev rfl (E.pickT rfl rfl) ?_
        refine R.done ?_
        refine X.keep [(1, _), (2, _), (3, _), (7, _), (8, _), (38, _)] ⟨rfl, rfl, rfl, rfl, rfl, rfl, trivial⟩ ?_
        refine X.next ?_
        refine C.cbool rfl (fun h38 => ?_) (fun h38 => ?_)
        · refine C.region ?_
          refine R.ev rfl (E.move rfl) ?_
          first | refine R.ev rfl (E.fieldAddr0 3 rfl Try.underlying52 rfl Try.sz50 rfl) ?_ | refine R.ev rfl (E.fieldAddrN 3 rfl Try.underlying52 rfl Try.sz50 rfl) ?_
          refine R.ev rfl (E.load1 rfl Try.underlying50 rfl (by first | exact hs.ldc | exact hs.ld rfl | exact hs.ld (by assumption) | exact by assumption | exact At.cellC (by assumption))) ?_
          refine R.ev rfl (E.move rfl) ?_
          refine R.ev rfl (E.indexAddr rfl rfl Try.underlying50 Try.sz90 rfl (by first | omega | decide)) ?_
          first | refine R.ev rfl (E.fieldAddr0 0 rfl Try.underlying90 rfl Try.sz29 rfl) ?_ | refine R.ev rfl (E.fieldAddrN 0 rfl Try.underlying90 rfl Try.sz29 rfl) ?_
          refine R.ev rfl (E.loadRowC rfl Try.underlying29 rfl Try.sz29 (by first | exact ⟨hs.ldA, by first | rfl | assumption | exact encV_len _ | exact Enc.len _ | exact len_ub (by assumption)⟩ | exact ⟨hs.ldP rfl, by first | rfl | assumption | exact encV_len _ | exact Enc.len _ | exact len_ub (by assumption)⟩ | exact ⟨hs.ldM rfl rfl, by first | rfl | assumption | exact encV_len _ | exact Enc.len _ | exact len_ub (by assumption)⟩ | exact ⟨hs.ldM (by assumption) (by first | rfl | assumption), by first | rfl | assumption | exact encV_len _ | exact Enc.len _ | exact len_ub (by assumption)⟩ | exact ⟨by assumption, by first | rfl | assumption | exact encV_len _ | exact Enc.len _ | exact len_ub (by assumption)⟩ | exact hs.ldp | exact At.partC (by assumption))) ?_
          refine R.buildSliceA rfl Try.underlying31 Try.sz29 Try.zr29 rfl (by first | rfl | assumption | exact encV_len _ | exact Enc.len _ | simp [*]) (by decide) (by decide) ?_
          intro b46 w46 n46
          have hs := hs.new n46
          refine R.capp1 (y.id) hs rfl rfl Try.underlying31 Try.by29 (by rfl) rfl (by first | exact hs.ldA | exact hs.ldP rfl | exact by assumption) (by decide) (by first | omega | (simp only [List.length_append, List.length_cons, List.length_nil] at *; omega)) (by first | omega | (simp only [List.length_append, List.length_cons, List.length_nil] at *; omega)) ?_
          intro v47 w47 F47 r47 hs
          refine R.ev rfl (E.assign rfl) ?_
          refine R.done ?_
          refine X.keep [(1, _), (2, _), (3, _), (7, _), (8, _)] ⟨rfl, rfl, rfl, rfl, rfl, trivial⟩ ?_
          refine X.blockNormal ?_
          refine X.next ?_
          refine C.region ?_
          refine R.ev rfl (E.move rfl) ?_
          refine R.ev rfl (E.add rfl rfl (by omega) (by omega)) ?_
          refine R.ev rfl (E.assign rfl) ?_
          refine R.done ?_
          refine X.keep [(1, _), (2, _), (3, _), (7, _), (8, _)] ⟨rfl, rfl, rfl, rfl, rfl, trivial⟩ ?_
          first
            | exact X.again (k + 1, v47, F47) ⟨rfl, rfl, rfl, rfl, rfl, trivial⟩ ⟨by omega, by rw [pickL_snoc hy h24, show rNxt now y = true by simp_all [rNxt]]; exact r47, hs.to⟩ (by show _ - _ < _ - _; omega)
            | exact X.again (k + 1, .slice ad1 (pickL (rNxt now) RE.id most (L.take k)).length cap1, F') ⟨rfl, rfl, rfl, rfl, rfl, trivial⟩ ⟨by omega, by rw [pickL_snoc hy h24, show rNxt now y = false by simp_all [rNxt]]; simpa using r1, hs.to⟩ (by show _ - _ < _ - _; omega)
        · refine C.skip ?_
          refine X.blockNormal ?_
          refine X.next ?_
          refine C.region ?_
          refine R.ev rfl (E.move rfl) ?_
          refine R.ev rfl (E.add rfl rfl (by omega) (by omega)) ?_
          refine R.ev rfl (E.assign rfl) ?_
          refine R.done ?_
          refine X.keep [(1, _), (2, _), (3, _), (7, _), (8, _)] ⟨rfl, rfl, rfl, rfl, rfl, trivial⟩ ?_
          first
            | exact X.again (k + 1, v47, F47) ⟨rfl, rfl, rfl, rfl, rfl, trivial⟩ ⟨by omega, by rw [pickL_snoc hy h24, show rNxt now y = true by simp_all [rNxt]]; exact r47, hs.to⟩ (by show _ - _ < _ - _; omega)
            | exact X.again (k + 1, .slice ad1 (pickL (rNxt now) RE.id most (L.take k)).length cap1, F') ⟨rfl, rfl, rfl, rfl, rfl, trivial⟩ ⟨by omega, by rw [pickL_snoc hy h24, show rNxt now y = false by simp_all [rNxt]]; simpa using r1, hs.to⟩ (by show _ - _ < _ - _; omega)
      · refine R.gskip rfl rfl rfl ?_
        refine R.gskip rfl rfl rfl ?_
        refine R.gskip rfl rfl rfl ?_
        refine R.gskip rfl rfl rfl ?_
        refine R.gskip rfl rfl rfl ?_
        refine R.gskip rfl rfl rfl ?_
        refine R.gskip rfl rfl rfl ?_
        refine R.gskip rfl rfl rfl ?_
        refine R.ev rfl (E.pickF rfl rfl) ?_
        refine R.done ?_
        refine X.keep [(1, _), (2, _), (3, _), (7, _), (8, _), (38, _)] ⟨rfl, rfl, rfl, rfl, rfl, rfl, trivial⟩ ?_
        refine X.next ?_
        refine C.cfalse rfl ?_
        refine C.skip ?_
        refine X.blockNormal ?_
        refine X.next ?_
        refine C.region ?_
        refine R.ev rfl (E.move rfl) ?_
        refine R.ev rfl (E.add rfl rfl (by omega) (by omega)) ?_
        refine R.ev rfl (E.assign rfl) ?_
        refine R.done ?_
        refine X.keep [(1, _), (2, _), (3, _), (7, _), (8, _)] ⟨rfl, rfl, rfl, rfl, rfl, trivial⟩ ?_
        first
          | exact X.again (k + 1, v47, F47) ⟨rfl, rfl, rfl, rfl, rfl, trivial⟩ ⟨by omega, by rw [pickL_snoc hy h24, show rNxt now y = true by simp_all [rNxt]]; exact r47, hs.to⟩ (by show _ - _ < _ - _; omega)
          | exact X.again (k + 1, .slice ad1 (pickL (rNxt now) RE.id most (L.take k)).length cap1, F') ⟨rfl, rfl, rfl, rfl, rfl, trivial⟩ ⟨by omega, by rw [pickL_snoc hy h24, show rNxt now y = false by simp_all [rNxt]]; simpa using r1, hs.to⟩ (by show _ - _ < _ - _; omega)
    · refine C.exit ?_
      refine X.thenExit ?_
      refine X.loopExit ?_
      refine X.blockExit ?_
      refine X.next ?_
      refine C.seq ?_
      refine C.region ?_
      refine R.ev rfl (E.move rfl) ?_
      refine R.ev rfl (E.assign rfl) ?_
      refine R.done ?_
      refine X.keep [(6, _)] ⟨rfl, trivial⟩ ?_
      refine X.next ?_
      refine C.ret ?_
      refine X.ret1 rfl rfl ?_
      first
        | exact ⟨F', by rw [pickL_stop (of_most h19)]; exact r1, hs.to⟩
        | exact ⟨F', by rw [pick_end (of_len hk h14)]; exact r1, hs.to⟩
  · refine R.gskip rfl rfl rfl ?_
    refine R.gskip rfl rfl rfl ?_
    refine R.gskip rfl rfl rfl ?_
    refine R.gskip rfl rfl rfl ?_
    refine R.ev rfl (E.pickF rfl rfl) ?_
    refine R.done ?_
    refine X.keep [(1, _), (2, _), (3, _), (7, _), (8, _), (19, _)] ⟨rfl, rfl, rfl, rfl, rfl, rfl, trivial⟩ ?_
    refine X.next ?_
    refine C.cfalse rfl ?_
    refine C.exit ?_
    refine X.thenExit ?_
    refine X.loopExit ?_
    refine X.blockExit ?_
    refine X.next ?_
    refine C.seq ?_
    refine C.region ?_
    refine R.ev rfl (E.move rfl) ?_
    refine R.ev rfl (E.assign rfl) ?_
    refine R.done ?_
    refine X.keep [(6, _)] ⟨rfl, trivial⟩ ?_
    refine X.next ?_
    refine C.ret ?_
    refine X.ret1 rfl rfl ?_
    first
      | exact ⟨F', by rw [pickL_stop (of_most h19)]; exact r1, hs.to⟩
      | exact ⟨F', by rw [pick_end (of_len hk h14)]; exact r1, hs.to⟩
end Go.Proofs.Ytoidpcmcbmioiaa
