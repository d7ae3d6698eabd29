/-
  package feedrule: Check, Compile, Reason, Due for the rule of this law.
-/
import Derived.Test.YtifghjeapfijkaaGreatDoorWilC
import Derived.Test.YtifghjeapfijkaaGreatDoorGrp
import Derived.Test.YtifghjeapfijkaaGreatDoorSite
import Derived.Test.YtifghjeapfijkaaGreatDoorFun
namespace Go.Eng
open Go.RowKit
section ops
variable {P : Program} {Q : Post} {n : Nn} {g : Env} {w : World} {ty : TypeId} {pos : String} {af : Array Edge} {ops : Array Oper} {rest : List Oper} {d : Nat}
variable {t : TypeId} {K : Kn} {Hs Rs : List Hl} {F : Hl}
/-- a slice literal that leaves places out; one cell each -/
theorem R.cbuildF {m : Nat} {e : TypeId} {zv : Value} {parts : List (Nat × Operand)} {vs cells : List Value} (hs : Sat K w Hs) (hv : lookAll g (parts.map (·.2)) = some vs) (hu : P.underlying t = some (.slice e)) (hz1 : szOf P e = some 1) (hz : zeroOf P e = some zv)
    (hf : Instr.fill (fun i => some (i * 1, 1)) ((Array.range (m * 1)).map (zv.cells[· % zv.cells.size]!)) ((parts.map (·.1)).zip vs) = some cells.toArray) (hb : Nat.ble m 16777216 = true) (h0 : Nat.blt 0 m = true) (hd : Nat.blt d n.sz = true)
    (cont : ∀ b w', Sat K w' (row b e cells :: Hs) → R P ops Q rest n ((d, .slice (some ⟨b, 0, none⟩) m m) :: g) w') :
    R P ops Q (⟨some d, .buildSlice t m parts.toArray, ty, pos, af, none⟩ :: rest) n g w := by
  have hb : m ≤ 16777216 := by simpa [Nat.ble_eq] using hb
  have h0 : 0 < m := by simpa [Nat.blt_eq] using h0
  refine R.ac (w' := w.alloc (.cells cells.toArray e)) (v := .slice (some ⟨w.heap.size, 0, none⟩) m m) hd (fun a f => ?_) (cont _ _ (hs.new (New.ofAlloc w e cells)))
  have hen : (parts.toArray.map fun p => (p.1, a.eval p.2)).toList = (parts.map (·.1)).zip vs := by
    have h1 := f.evalAll hv
    rw [← h1]
    simp [List.zip_map']
  have hne : ¬ (m * 1 = 0) := by omega
  have hbig : ¬ (16777216 < m * 1) := by omega
  simp only [execOp, Instr.buildSlice, Sem.run_bind, run_underlying hu, Result.andThen_ok, run_szOf hz1]
  simp only [hen]
  rw [if_neg (by simpa using hbig)]
  simp only [Sem.run_bind, Sem.run_pure, Result.andThen_ok, hne, if_false, run_zeroOf hz]
  rw [hf]
  simp [newRow, newObj]
  rfl
end ops
end Go.Eng
namespace Go.Proofs.YtifghjeapfijkaaGreatDoor
open Go.Eng Go.RowKit

variable {K : Kn} {Hs Rs : List Hl} {F : Hl} {w : World} {p : Nat}
/-- the rule of this law -/
abbrev patT : List UInt8 := [97, 44, 98]
abbrev nbT : List UInt8 := [120]
abbrev ruleL (d : Int) : List Value := [str nbT, str patT, .int .i64 0, .int .i64 d, .slice none 0 0]
def lawE : Ens := (splitL 44 patT).map entO
theorem pat_ok : patT ≠ [] ∧ patT.length ≤ 1000 ∧ (splitL 44 patT).length ≤ 64 ∧ ∀ q ∈ splitL 44 patT, okP q := by decide
theorem rcheck_any (d : Int) (hd : 0 ≤ d ∧ d ≤ 20160) (hs : Sat K w Hs) : Ret Tryz.prog 25 #[.agg (ruleL d).toArray] w fun v w' => ∃ K', KLe K K' ∧ v = .int .i64 0 ∧ Sat K' w' Hs := by
  refine Ret.enter (n := 69) (args := [.agg (ruleL d).toArray]) Tryz.func25 rfl rfl ?_
  refine C.keep [(0, _)] ⟨rfl, trivial⟩ ?_
  refine C.seq ?_
  refine C.region ?_
  refine R.sboxA hs rfl rfl ?_
  intro b1 w1 hs
  refine R.ev rfl (E.assign rfl) ?_
  refine R.done ?_
  refine X.keep [(1, _)] ⟨rfl, trivial⟩ ?_
  refine X.next ?_
  refine C.seq ?_
  refine C.seq ?_
  refine C.region ?_
  first | refine R.ev rfl (E.fieldAddr0 0 rfl Tryz.underlying32 rfl Tryz.sz9 rfl) ?_ | refine R.ev rfl (E.fieldAddrN 0 rfl Tryz.underlying32 rfl Tryz.sz9 rfl) ?_
  refine R.ev rfl (E.load1 rfl Tryz.underlying9 rfl (by first | exact hs.ldc | exact hs.ld rfl | exact hs.ld (by assumption) | exact by assumption | exact At.cellC (by assumption) | exact hs.ldK rfl)) ?_
  refine R.call ⟨_, _, Tryz.func55, rfl, by kernel_rfl⟩ rfl rfl (site_any nbT _ (by decide)) ?_
  rintro _ _ ⟨rfl, rfl⟩
  refine R.ev rfl (E.move rfl) ?_
  refine R.ev rfl (E.extract rfl rfl) ?_
  refine R.ev rfl (E.extract rfl rfl) ?_
  refine R.ev rfl (E.assign rfl) ?_
  refine R.ev rfl (E.assign rfl) ?_
  refine R.done ?_
  refine X.keep [(1, _), (4, _)] ⟨rfl, rfl, trivial⟩ ?_
  refine X.next ?_
  refine C.seq ?_
  refine C.region ?_
  refine R.ev rfl (E.move rfl) ?_
  refine R.ev rfl ((E.neq rfl rfl).isF (by decide)) ?_
  refine R.done ?_
  refine X.keep [(1, _), (4, _), (17, _)] ⟨rfl, rfl, rfl, trivial⟩ ?_
  refine X.next ?_
  refine C.cfalse rfl ?_
  refine C.skip ?_
  refine X.next ?_
  refine C.seq ?_
  refine C.seq ?_
  refine C.region ?_
  first | refine R.ev rfl (E.fieldAddr0 1 rfl Tryz.underlying32 rfl Tryz.sz9 rfl) ?_ | refine R.ev rfl (E.fieldAddrN 1 rfl Tryz.underlying32 rfl Tryz.sz9 rfl) ?_
  refine R.ev rfl (E.load1 rfl Tryz.underlying9 rfl (by first | exact hs.ldc | exact hs.ld rfl | exact hs.ld (by assumption) | exact by assumption | exact At.cellC (by assumption) | exact hs.ldK rfl)) ?_
  refine R.call ⟨_, _, Tryz.func22, rfl, by kernel_rfl⟩ rfl rfl (parseList_any patT pat_ok.1 pat_ok.2.1 pat_ok.2.2.1 pat_ok.2.2.2 hs) ?_
  rintro _ w4 ⟨K4, l4, hK4, rfl, hl4, hs⟩
  refine R.ev rfl (E.move rfl) ?_
  refine R.ev rfl (E.extract rfl rfl) ?_
  refine R.ev rfl (E.extract rfl rfl) ?_
  refine R.ev rfl (E.extract rfl rfl) ?_
  refine R.ev rfl (E.assign rfl) ?_
  refine R.ev rfl (E.assign rfl) ?_
  refine R.ev rfl (E.assign rfl) ?_
  refine R.done ?_
  refine X.keep [(1, _), (7, _)] ⟨rfl, rfl, trivial⟩ ?_
  refine X.next ?_
  refine C.seq ?_
  refine C.region ?_
  refine R.ev rfl (E.move rfl) ?_
  refine R.ev rfl ((E.neq rfl rfl).isF (by decide)) ?_
  refine R.done ?_
  refine X.keep [(1, _), (7, _), (27, _)] ⟨rfl, rfl, rfl, trivial⟩ ?_
  refine X.next ?_
  refine C.cfalse rfl ?_
  refine C.skip ?_
  refine X.next ?_
  refine C.seq ?_
  refine C.seq ?_
  refine C.region ?_
  first | refine R.ev rfl (E.fieldAddr0 2 rfl Tryz.underlying32 rfl Tryz.sz3 rfl) ?_ | refine R.ev rfl (E.fieldAddrN 2 rfl Tryz.underlying32 rfl Tryz.sz3 rfl) ?_
  refine R.ev rfl (E.load1 rfl Tryz.underlying3 rfl (by first | exact hs.ldc | exact hs.ld rfl | exact hs.ld (by assumption) | exact by assumption | exact At.cellC (by assumption) | exact hs.ldK rfl)) ?_
  refine R.ev rfl ((E.lss rfl rfl).isF (by decide)) ?_
  refine R.ev rfl (E.move rfl) ?_
  refine R.gyes rfl rfl ?_
  first | refine R.ev rfl (E.fieldAddr0 2 rfl Tryz.underlying32 rfl Tryz.sz3 rfl) ?_ | refine R.ev rfl (E.fieldAddrN 2 rfl Tryz.underlying32 rfl Tryz.sz3 rfl) ?_
  refine R.gyes rfl rfl ?_
  refine R.ev rfl (E.load1 rfl Tryz.underlying3 rfl (by first | exact hs.ldc | exact hs.ld rfl | exact hs.ld (by assumption) | exact by assumption | exact At.cellC (by assumption) | exact hs.ldK rfl)) ?_
  refine R.gyes rfl rfl ?_
  refine R.ev rfl ((E.gtr rfl rfl).isF (by decide)) ?_
  refine R.ev rfl (E.pickF rfl rfl) ?_
  refine R.ev rfl (E.move rfl) ?_
  refine R.gyes rfl rfl ?_
  first | refine R.ev rfl (E.fieldAddr0 3 rfl Tryz.underlying32 rfl Tryz.sz3 rfl) ?_ | refine R.ev rfl (E.fieldAddrN 3 rfl Tryz.underlying32 rfl Tryz.sz3 rfl) ?_
  refine R.gyes rfl rfl ?_
  refine R.ev rfl (E.load1 rfl Tryz.underlying3 rfl (by first | exact hs.ldc | exact hs.ld rfl | exact hs.ld (by assumption) | exact by assumption | exact At.cellC (by assumption) | exact hs.ldK rfl)) ?_
  refine R.gyes rfl rfl ?_
  refine R.ev rfl ((E.lss rfl rfl).isF (by omega)) ?_
  refine R.ev rfl (E.pickF rfl rfl) ?_
  refine R.ev rfl (E.move rfl) ?_
  refine R.gyes rfl rfl ?_
  first | refine R.ev rfl (E.fieldAddr0 3 rfl Tryz.underlying32 rfl Tryz.sz3 rfl) ?_ | refine R.ev rfl (E.fieldAddrN 3 rfl Tryz.underlying32 rfl Tryz.sz3 rfl) ?_
  refine R.gyes rfl rfl ?_
  refine R.ev rfl (E.load1 rfl Tryz.underlying3 rfl (by first | exact hs.ldc | exact hs.ld rfl | exact hs.ld (by assumption) | exact by assumption | exact At.cellC (by assumption) | exact hs.ldK rfl)) ?_
  refine R.gyes rfl rfl ?_
  refine R.ev rfl ((E.gtr rfl rfl).isF (by omega)) ?_
  refine R.ev rfl (E.pickF rfl rfl) ?_
  refine R.done ?_
  refine X.keep [(1, _), (46, _)] ⟨rfl, rfl, trivial⟩ ?_
  refine X.next ?_
  refine C.cfalse rfl ?_
  refine C.skip ?_
  refine X.next ?_
  refine C.seq ?_
  refine C.seq ?_
  refine C.region ?_
  first | refine R.ev rfl (E.fieldAddr0 4 rfl Tryz.underlying32 rfl Tryz.sz30 rfl) ?_ | refine R.ev rfl (E.fieldAddrN 4 rfl Tryz.underlying32 rfl Tryz.sz30 rfl) ?_
  refine R.ev rfl (E.load1 rfl Tryz.underlying30 rfl (by first | exact hs.ldc | exact hs.ld rfl | exact hs.ld (by assumption) | exact by assumption | exact At.cellC (by assumption) | exact hs.ldK rfl)) ?_
  refine R.ev rfl (E.lenSl rfl Tryz.underlying30) ?_
  refine R.ev rfl ((E.gtr rfl rfl).isF (by decide)) ?_
  refine R.done ?_
  refine X.keep [(1, _), (50, _)] ⟨rfl, rfl, trivial⟩ ?_
  refine X.next ?_
  refine C.cfalse rfl ?_
  refine C.skip ?_
  refine X.next ?_
  refine C.seq ?_
  refine C.seq ?_
  refine C.region ?_
  first | refine R.ev rfl (E.fieldAddr0 4 rfl Tryz.underlying32 rfl Tryz.sz30 rfl) ?_ | refine R.ev rfl (E.fieldAddrN 4 rfl Tryz.underlying32 rfl Tryz.sz30 rfl) ?_
  refine R.ev rfl (E.load1 rfl Tryz.underlying30 rfl (by first | exact hs.ldc | exact hs.ld rfl | exact hs.ld (by assumption) | exact by assumption | exact At.cellC (by assumption) | exact hs.ldK rfl)) ?_
  refine R.ev rfl (E.lenSl rfl Tryz.underlying30) ?_
  refine R.ev rfl (E.move rfl) ?_
  refine R.done ?_
  refine X.keep [(1, _), (52, _), (53, _), (54, _)] ⟨rfl, rfl, rfl, rfl, trivial⟩ ?_
  refine X.next ?_
  refine C.block ?_
  refine C.loop (T := Unit) [(1, _), (52, _), (53, _)] (fun _ => [(54, .int .i64 0)]) (fun _ w' => Sat K4 w' (row b1 32 (ruleL d) :: Hs)) (fun _ => 0) (()) ⟨rfl, rfl, rfl, rfl, trivial⟩ hs ?_
  rintro _ w5 hs
  refine C.keep [(1, _), (52, _), (53, _), (54, _)] ⟨rfl, rfl, rfl, rfl, trivial⟩ ?_
  refine C.seq ?_
  refine C.region ?_
  refine R.ev rfl ((E.lss rfl rfl).isF (by decide)) ?_
  refine R.done ?_
  refine X.keep [(1, _), (52, _), (53, _), (54, _), (55, _)] ⟨rfl, rfl, rfl, rfl, rfl, trivial⟩ ?_
  refine X.next ?_
  refine C.seq ?_
  refine C.cfalse rfl ?_
  refine C.exit ?_
  refine X.thenExit ?_
  refine X.loopExit ?_
  refine X.blockExit ?_
  refine X.next ?_
  refine C.seq ?_
  refine C.region ?_
  refine R.ev rfl (E.assign rfl) ?_
  refine R.done ?_
  refine X.keep [(2, _)] ⟨rfl, trivial⟩ ?_
  refine X.next ?_
  refine C.ret ?_
  refine X.ret1 rfl rfl ?_
  exact ⟨K4, hK4, rfl, hs.to⟩
theorem cloneS_nil (w : World) : Ret Tryz.prog 26 #[.slice none 0 0] w fun v w' => v = .slice none 0 0 ∧ w = w' := by
  refine Ret.enter (n := 8) (args := [.slice none 0 0]) Tryz.func26 rfl rfl ?_
  refine C.keep [(0, _)] ⟨rfl, trivial⟩ ?_
  refine C.seq ?_
  refine C.region ?_
  refine R.ev rfl (E.assign rfl) ?_
  refine R.done ?_
  refine X.keep [(0, _)] ⟨rfl, trivial⟩ ?_
  refine X.next ?_
  refine C.seq ?_
  refine C.seq ?_
  refine C.region ?_
  refine R.ev rfl (E.move rfl) ?_
  refine R.ev rfl ((E.eqlNilS rfl rfl Tryz.underlying30).isB (c := true) rfl) ?_
  refine R.done ?_
  refine X.keep [(0, _), (4, _)] ⟨rfl, rfl, trivial⟩ ?_
  refine X.next ?_
  refine C.ctrue rfl ?_
  refine C.seq ?_
  refine C.region ?_
  refine R.ev rfl (E.assign rfl) ?_
  refine R.done ?_
  refine X.keep [(2, _)] ⟨rfl, trivial⟩ ?_
  refine X.next ?_
  refine C.ret ?_
  refine X.thenRet ?_
  refine X.ret1 rfl rfl ?_
  exact ⟨rfl, rfl⟩
/-- the feed of this law -/
class KFeed (K : Kn) (f : Nat) (d : outParam Int) : Prop where
  ex : ∃ l, KCel K f (ruleL d ++ [ptr l]) ∧ KLst K l lawE
instance KFeed.mono {K K' : Kn} {f : Nat} {d : Int} [k : KLe K K'] [h : KFeed K f d] : KFeed K' f d := ⟨by
  obtain ⟨l, h1, h2⟩ := h.ex
  exact ⟨l, inferInstance, inferInstance⟩⟩
theorem fcompile_any (d : Int) (hd : 0 ≤ d ∧ d ≤ 20160) (hs : Sat K w Hs) : Ret Tryz.prog 5 #[.agg (ruleL d).toArray] w fun v w' => ∃ K' f, KLe K K' ∧ v = .tuple #[ptr f, .int .i64 0] ∧ KFeed K' f d ∧ Sat K' w' Hs := by
  refine Ret.enter (n := 31) (args := [.agg (ruleL d).toArray]) Tryz.func5 rfl rfl ?_
  refine C.keep [(0, _)] ⟨rfl, trivial⟩ ?_
  refine C.seq ?_
  refine C.region ?_
  refine R.sboxA hs rfl rfl ?_
  intro b1 w1 hs
  refine R.ev rfl (E.assign rfl) ?_
  refine R.ev rfl (E.assign rfl) ?_
  refine R.done ?_
  refine X.keep [(1, _)] ⟨rfl, trivial⟩ ?_
  refine X.next ?_
  refine C.seq ?_
  refine C.seq ?_
  refine C.region ?_
  refine R.ev rfl (E.loadRowC rfl Tryz.underlying32 rfl Tryz.sz32 (by first | exact ⟨hs.ldA, by first | rfl | assumption | exact encV_len _ | exact Enc.len _ | exact len_ub (by assumption)⟩ | exact ⟨hs.ldP rfl, by first | rfl | assumption | exact encV_len _ | exact Enc.len _ | exact len_ub (by assumption)⟩ | exact ⟨hs.ldM rfl rfl, by first | rfl | assumption | exact encV_len _ | exact Enc.len _ | exact len_ub (by assumption)⟩ | exact ⟨hs.ldM (by assumption) (by first | rfl | assumption), by first | rfl | assumption | exact encV_len _ | exact Enc.len _ | exact len_ub (by assumption)⟩ | exact ⟨by assumption, by first | rfl | assumption | exact encV_len _ | exact Enc.len _ | exact len_ub (by assumption)⟩ | exact hs.ldp | exact At.partC (by assumption))) ?_
  refine R.call ⟨_, _, Tryz.func25, rfl, by kernel_rfl⟩ rfl rfl (rcheck_any d hd hs) ?_
  rintro _ w1 ⟨K1, hK1, rfl, hs⟩
  refine R.ev rfl (E.assign rfl) ?_
  refine R.done ?_
  refine X.keep [(1, _), (4, _)] ⟨rfl, rfl, trivial⟩ ?_
  refine X.next ?_
  refine C.seq ?_
  refine C.region ?_
  refine R.ev rfl (E.move rfl) ?_
  refine R.ev rfl ((E.neq rfl rfl).isF (by decide)) ?_
  refine R.done ?_
  refine X.keep [(1, _), (4, _), (11, _)] ⟨rfl, rfl, rfl, trivial⟩ ?_
  refine X.next ?_
  refine C.cfalse rfl ?_
  refine C.skip ?_
  refine X.next ?_
  refine C.seq ?_
  refine C.region ?_
  first | refine R.ev rfl (E.fieldAddr0 1 rfl Tryz.underlying32 rfl Tryz.sz9 rfl) ?_ | refine R.ev rfl (E.fieldAddrN 1 rfl Tryz.underlying32 rfl Tryz.sz9 rfl) ?_
  refine R.ev rfl (E.load1 rfl Tryz.underlying9 rfl (by first | exact hs.ldc | exact hs.ld rfl | exact hs.ld (by assumption) | exact by assumption | exact At.cellC (by assumption) | exact hs.ldK rfl)) ?_
  refine R.call ⟨_, _, Tryz.func22, rfl, by kernel_rfl⟩ rfl rfl (parseList_any patT pat_ok.1 pat_ok.2.1 pat_ok.2.2.1 pat_ok.2.2.2 hs) ?_
  rintro _ w4 ⟨K4, l4, hK4, rfl, hl4, hs⟩
  refine R.ev rfl (E.move rfl) ?_
  refine R.ev rfl (E.extract rfl rfl) ?_
  refine R.ev rfl (E.extract rfl rfl) ?_
  refine R.ev rfl (E.extract rfl rfl) ?_
  refine R.ev rfl (E.assign rfl) ?_
  refine R.ev rfl (E.assign rfl) ?_
  refine R.ev rfl (E.assign rfl) ?_
  refine R.done ?_
  refine X.keep [(1, _), (5, _), (7, _)] ⟨rfl, rfl, rfl, trivial⟩ ?_
  refine X.next ?_
  refine C.seq ?_
  refine C.seq ?_
  refine C.region ?_
  refine R.ev rfl (E.move rfl) ?_
  refine R.ev rfl ((E.neq rfl rfl).isF (by decide)) ?_
  refine R.done ?_
  refine X.keep [(1, _), (5, _), (7, _), (21, _)] ⟨rfl, rfl, rfl, rfl, trivial⟩ ?_
  refine X.next ?_
  refine C.cfalse rfl ?_
  refine C.skip ?_
  refine X.next ?_
  refine C.seq ?_
  refine C.region ?_
  first | refine R.ev rfl (E.fieldAddr0 4 rfl Tryz.underlying32 rfl Tryz.sz30 rfl) ?_ | refine R.ev rfl (E.fieldAddrN 4 rfl Tryz.underlying32 rfl Tryz.sz30 rfl) ?_
  refine R.ev rfl (E.load1 rfl Tryz.underlying30 rfl (by first | exact hs.ldc | exact hs.ld rfl | exact hs.ld (by assumption) | exact by assumption | exact At.cellC (by assumption) | exact hs.ldK rfl)) ?_
  refine R.call ⟨_, _, Tryz.func26, rfl, by kernel_rfl⟩ rfl rfl (cloneS_nil _) ?_
  rintro _ _ ⟨rfl, rfl⟩
  first | refine R.ev rfl (E.fieldAddr0 4 rfl Tryz.underlying32 rfl Tryz.sz30 rfl) ?_ | refine R.ev rfl (E.fieldAddrN 4 rfl Tryz.underlying32 rfl Tryz.sz30 rfl) ?_
  refine R.cstore1 hs rfl rfl Tryz.sz30 (by first | decide | simp [*]) (by first | rfl | exact OneC.one | exact KRow.oneC' (by assumption)) ?_
  intro w7_4 hs
  try simp only [List.set_cons_zero, List.set_cons_succ] at hs
  refine R.done ?_
  refine X.keep [(1, _), (5, _)] ⟨rfl, rfl, trivial⟩ ?_
  refine X.next ?_
  refine C.seq ?_
  refine C.region ?_
  refine R.ev rfl (E.loadRowC rfl Tryz.underlying32 rfl Tryz.sz32 (by first | exact ⟨hs.ldA, by first | rfl | assumption | exact encV_len _ | exact Enc.len _ | exact len_ub (by assumption)⟩ | exact ⟨hs.ldP rfl, by first | rfl | assumption | exact encV_len _ | exact Enc.len _ | exact len_ub (by assumption)⟩ | exact ⟨hs.ldM rfl rfl, by first | rfl | assumption | exact encV_len _ | exact Enc.len _ | exact len_ub (by assumption)⟩ | exact ⟨hs.ldM (by assumption) (by first | rfl | assumption), by first | rfl | assumption | exact encV_len _ | exact Enc.len _ | exact len_ub (by assumption)⟩ | exact ⟨by assumption, by first | rfl | assumption | exact encV_len _ | exact Enc.len _ | exact len_ub (by assumption)⟩ | exact hs.ldp | exact At.partC (by assumption))) ?_
  refine R.ev rfl (E.move rfl) ?_
  refine R.ev rfl (E.buildG (r := ruleL d ++ [ptr l4]) rfl Tryz.underlying75 Tryz.zr75 Tryz.ql75 (by kernel_rfl) (by kernel_rfl) ⟨⟨_, rfl, rfl⟩, ⟨_, rfl, rfl⟩, trivial⟩ rfl) ?_
  refine R.sboxA hs rfl rfl ?_
  intro b30 w30 hs
  refine R.ev rfl (E.assign rfl) ?_
  refine R.ev rfl (E.assign rfl) ?_
  refine R.done ?_
  refine X.keep [(2, _), (3, _)] ⟨rfl, rfl, trivial⟩ ?_
  refine X.next ?_
  refine C.ret ?_
  refine X.ret2 rfl rfl rfl ?_
  first
    | (obtain ⟨K5, hK5, hc5, hs⟩ := KCel.of hs
       exact ⟨K5, b30, KLe.trans hK1 (KLe.trans hK4 hK5), rfl, ⟨l4, hc5, inferInstance⟩, hs.to⟩)
/-- items -/
structure It where
  id : Vec 32
  ad : Option Addr
  n : Nat
  cap : Nat
  bytes : Int
  frm : List UInt8
  arr : Int
@[reducible] def It.gv (o : It) : Value := .slice o.ad o.n o.cap
def encIt (o : It) : List Value := o.id.1.map ub ++ [o.gv, str [], .int .i64 o.bytes, .bool false, str o.frm, .int .i64 o.arr]
abbrev evIt (o : It) : Value := .agg (encIt o).toArray
instance {o : It} : CellOf (encIt o) 32 o.gv := ⟨by simp [encIt, o.id.2]⟩
instance {o : It} : CellOf (encIt o) 33 (str []) := ⟨by simp [encIt, o.id.2]⟩
instance {o : It} : CellOf (encIt o) 34 (.int .i64 o.bytes) := ⟨by simp [encIt, o.id.2]⟩
instance {o : It} : CellOf (encIt o) 35 (.bool false) := ⟨by simp [encIt, o.id.2]⟩
instance {o : It} : CellOf (encIt o) 36 (str o.frm) := ⟨by simp [encIt, o.id.2]⟩
instance {o : It} : CellOf (encIt o) 37 (.int .i64 o.arr) := ⟨by simp [encIt, o.id.2]⟩
instance {o : It} : PartOf (encIt o) 0 32 (o.id.1.map ub) := PartOf.mk' (c1 := []) rfl rfl (encV_len _)
instance : Enc encIt 38 := ⟨fun o => by simp [encIt, o.id.2], fun o u hu => by
  simp only [encIt, List.mem_append, List.mem_cons, List.not_mem_nil, or_false] at hu
  rcases hu with hu | rfl | rfl | rfl | rfl | rfl | rfl
  · exact ub_all _ u hu
  all_goals rfl⟩
/-- the groups of an item are these, for good -/
abbrev ItOk (K : Kn) (o : It) (N : List (List UInt8)) : Prop := KRow encS 1 K o.gv N
variable {o : It} {N : List (List UInt8)} {bi bf f : Nat} {d : Int}
def sel (N : List (List UInt8)) : Bool := selL lawE false N
theorem reason1_any [hf : KFeed K f d] (hs : Sat K w Hs) [i1 : InH bi (.cells (encIt o).toArray 47 (0, 0)) Hs] [i2 : InH bf (.cells [ptr f].toArray 26 (0, 0)) Hs] :
    Ret Tryz.prog 36 #[ptr bi, ptr bf] w fun v w' => v = .bool (decide (o.frm = nbT)) ∧ Sat K w' Hs := by
  obtain ⟨l, hc, hl⟩ := hf.ex
  refine Ret.enter (n := 11) (args := [ptr bi, ptr bf]) Tryz.func36 rfl rfl ?_
  refine C.keep [(0, _), (1, _)] ⟨rfl, rfl, trivial⟩ ?_
  refine C.seq ?_
  refine C.region ?_
  refine R.ev rfl (E.assign rfl) ?_
  refine R.done ?_
  refine X.keep [(0, _), (1, _)] ⟨rfl, rfl, trivial⟩ ?_
  refine X.next ?_
  refine C.seq ?_
  refine C.drawn (SatS hs) ([1, 2, 6], [0, 3, 4, 5, 7, 8]) (by kernel_rfl) ?_
  have hs := hs.drew
  first | refine D.evP 0 rfl (by kernel_rfl) rfl (fun _ => hs.to) (fun _ => E.fieldAddr0 36 rfl Tryz.underlying47 rfl Tryz.sz9 rfl) ?_ | refine D.evP 0 rfl (by kernel_rfl) rfl (fun _ => hs.to) (fun _ => E.fieldAddrN 36 rfl Tryz.underlying47 rfl Tryz.sz9 rfl) ?_
  refine D.ev 1 rfl (by kernel_rfl) rfl hs.to (fun _ hS => E.load1 rfl Tryz.underlying9 rfl (by first | exact hS.ldc | exact hS.ld rfl | exact hS.ld (by assumption) | exact by assumption | exact At.cellC (by assumption) | exact hS.ldK rfl | exact At.cellC ((by assumption : ∀ w', Sat _ w' _ → At w' _ _ _) _ hS) | exact (by assumption : ∀ w', Sat _ w' _ → World.cell? w' _ = some _) _ hS)) ?_
  refine D.ev 2 rfl (by kernel_rfl) rfl hs.to (fun _ hS => E.load1 rfl Tryz.underlying26 rfl (by first | exact hS.ldc | exact hS.ld rfl | exact hS.ld (by assumption) | exact by assumption | exact At.cellC (by assumption) | exact hS.ldK rfl | exact At.cellC ((by assumption : ∀ w', Sat _ w' _ → At w' _ _ _) _ hS) | exact (by assumption : ∀ w', Sat _ w' _ → World.cell? w' _ = some _) _ hS)) ?_
  refine D.evP 3 rfl (by kernel_rfl) rfl (fun _ => hs.to) (fun _ => E.nilCheck rfl) ?_
  first | refine D.evP 4 rfl (by kernel_rfl) rfl (fun _ => hs.to) (fun _ => E.fieldAddr0 0 rfl Tryz.underlying75 rfl Tryz.sz32 rfl) ?_ | refine D.evP 4 rfl (by kernel_rfl) rfl (fun _ => hs.to) (fun _ => E.fieldAddrN 0 rfl Tryz.underlying75 rfl Tryz.sz32 rfl) ?_
  first | refine D.evP 5 rfl (by kernel_rfl) rfl (fun _ => hs.to) (fun _ => E.fieldAddr0 0 rfl Tryz.underlying32 rfl Tryz.sz9 rfl) ?_ | refine D.evP 5 rfl (by kernel_rfl) rfl (fun _ => hs.to) (fun _ => E.fieldAddrN 0 rfl Tryz.underlying32 rfl Tryz.sz9 rfl) ?_
  refine D.ev 6 rfl (by kernel_rfl) rfl hs.to (fun _ hS => E.load1 rfl Tryz.underlying9 rfl (by first | exact hS.ldc | exact hS.ld rfl | exact hS.ld (by assumption) | exact by assumption | exact At.cellC (by assumption) | exact hS.ldK rfl | exact At.cellC ((by assumption : ∀ w', Sat _ w' _ → At w' _ _ _) _ hS) | exact (by assumption : ∀ w', Sat _ w' _ → World.cell? w' _ = some _) _ hS)) ?_
  refine D.evP 7 rfl (by kernel_rfl) rfl (fun _ => hs.to) (fun _ => E.seql rfl rfl) ?_
  refine D.evP 8 rfl (by kernel_rfl) rfl (fun _ => hs.to) (fun _ => E.assign rfl) ?_
  refine D.done rfl (by kernel_rfl) ?_
  refine X.keep [(2, _)] ⟨rfl, trivial⟩ ?_
  refine X.next ?_
  refine C.ret ?_
  refine X.ret1 rfl rfl ?_
  exact ⟨rfl, hs⟩
theorem reason2_any [hf : KFeed K f d] (hs : Sat K w Hs) [i1 : InH bi (.cells (encIt o).toArray 47 (0, 0)) Hs] [i2 : InH bf (.cells [ptr f].toArray 26 (0, 0)) Hs] [hN : ItOk K o N] (hn : ∀ n ∈ N, n.length ≤ 1000000) (hN1 : N.length ≤ 1000000) :
    Ret Tryz.prog 37 #[ptr bi, ptr bf] w fun v w' => v = .bool (!(sel N)) ∧ Sat K w' Hs := by
  obtain ⟨l, hc, hl⟩ := hf.ex
  refine Ret.enter (n := 16) (args := [ptr bi, ptr bf]) Tryz.func37 rfl rfl ?_
  refine C.keep [(0, _), (1, _)] ⟨rfl, rfl, trivial⟩ ?_
  refine C.seq ?_
  refine C.region ?_
  refine R.ev rfl (E.assign rfl) ?_
  refine R.done ?_
  refine X.keep [(0, _), (1, _)] ⟨rfl, rfl, trivial⟩ ?_
  refine X.next ?_
  refine C.seq ?_
  refine C.drawn (SatS hs) ([1, 4, 7, 9], [0, 2, 3, 5, 6, 8, 11, 12, 13]) (by kernel_rfl) ?_
  have hs := hs.drew
  first | refine D.evP 0 rfl (by kernel_rfl) rfl (fun _ => hs.to) (fun _ => E.fieldAddr0 35 rfl Tryz.underlying47 rfl Tryz.sz4 rfl) ?_ | refine D.evP 0 rfl (by kernel_rfl) rfl (fun _ => hs.to) (fun _ => E.fieldAddrN 35 rfl Tryz.underlying47 rfl Tryz.sz4 rfl) ?_
  refine D.ev 1 rfl (by kernel_rfl) rfl hs.to (fun _ hS => E.load1 rfl Tryz.underlying4 rfl (by first | exact hS.ldc | exact hS.ld rfl | exact hS.ld (by assumption) | exact by assumption | exact At.cellC (by assumption) | exact hS.ldK rfl | exact At.cellC ((by assumption : ∀ w', Sat _ w' _ → At w' _ _ _) _ hS) | exact (by assumption : ∀ w', Sat _ w' _ → World.cell? w' _ = some _) _ hS)) ?_
  refine D.evP 2 rfl (by kernel_rfl) rfl (fun _ => hs.to) (fun _ => E.notF rfl) ?_
  refine D.evP 3 rfl (by kernel_rfl) rfl (fun _ => hs.to) (fun _ => E.move rfl) ?_
  first | refine D.evPG 8 rfl (by kernel_rfl) rfl rfl rfl (fun _ => hs.to) (fun _ => E.fieldAddr0 32 rfl Tryz.underlying47 rfl Tryz.sz30 rfl) ?_ | refine D.evPG 8 rfl (by kernel_rfl) rfl rfl rfl (fun _ => hs.to) (fun _ => E.fieldAddrN 32 rfl Tryz.underlying47 rfl Tryz.sz30 rfl) ?_
  refine D.evG 4 rfl (by kernel_rfl) rfl rfl rfl hs.to (fun _ hS => E.load1 rfl Tryz.underlying26 rfl (by first | exact hS.ldc | exact hS.ld rfl | exact hS.ld (by assumption) | exact by assumption | exact At.cellC (by assumption) | exact hS.ldK rfl | exact At.cellC ((by assumption : ∀ w', Sat _ w' _ → At w' _ _ _) _ hS) | exact (by assumption : ∀ w', Sat _ w' _ → World.cell? w' _ = some _) _ hS)) ?_
  refine D.evPG 5 rfl (by kernel_rfl) rfl rfl rfl (fun _ => hs.to) (fun _ => E.nilCheck rfl) ?_
  first | refine D.evPG 6 rfl (by kernel_rfl) rfl rfl rfl (fun _ => hs.to) (fun _ => E.fieldAddr0 5 rfl Tryz.underlying75 rfl Tryz.sz67 rfl) ?_ | refine D.evPG 6 rfl (by kernel_rfl) rfl rfl rfl (fun _ => hs.to) (fun _ => E.fieldAddrN 5 rfl Tryz.underlying75 rfl Tryz.sz67 rfl) ?_
  refine D.evG 7 rfl (by kernel_rfl) rfl rfl rfl hs.to (fun _ hS => E.load1 rfl Tryz.underlying67 rfl (by first | exact hS.ldc | exact hS.ld rfl | exact hS.ld (by assumption) | exact by assumption | exact At.cellC (by assumption) | exact hS.ldK rfl | exact At.cellC ((by assumption : ∀ w', Sat _ w' _ → At w' _ _ _) _ hS) | exact (by assumption : ∀ w', Sat _ w' _ → World.cell? w' _ = some _) _ hS)) ?_
  refine D.evG 9 rfl (by kernel_rfl) rfl rfl rfl hs.to (fun _ hS => E.load1 rfl Tryz.underlying30 rfl (by first | exact hS.ldc | exact hS.ld rfl | exact hS.ld (by assumption) | exact by assumption | exact At.cellC (by assumption) | exact hS.ldK rfl | exact At.cellC ((by assumption : ∀ w', Sat _ w' _ → At w' _ _ _) _ hS) | exact (by assumption : ∀ w', Sat _ w' _ → World.cell? w' _ = some _) _ hS)) ?_
  refine D.act 10 rfl (by kernel_rfl) ?_
  refine R.gyes rfl rfl ?_
  refine R.call ⟨_, _, Tryz.func38, rfl, by kernel_rfl⟩ rfl rfl (selects_any (L := lawE) (N := N) hs hn (by decide) hN1) ?_
  rintro _ w1 ⟨rfl, hs⟩
  refine D.backT (by kernel_rfl) ?_
  refine D.evPG 11 rfl (by kernel_rfl) rfl rfl rfl (np (by kernel_rfl)) (fun _ => E.not rfl) ?_
  refine D.evP 12 rfl (by kernel_rfl) rfl (np (by kernel_rfl)) (fun _ => E.pickT rfl rfl) ?_
  refine D.evP 13 rfl (by kernel_rfl) rfl (np (by kernel_rfl)) (fun _ => E.assign rfl) ?_
  refine D.done rfl (by kernel_rfl) ?_
  refine X.keep [(2, _)] ⟨rfl, trivial⟩ ?_
  refine X.next ?_
  refine C.ret ?_
  refine X.ret1 rfl rfl ?_
  exact ⟨rfl, hs⟩
theorem reason3_any [hf : KFeed K f d] (hs : Sat K w Hs) [i1 : InH bi (.cells (encIt o).toArray 47 (0, 0)) Hs] [i2 : InH bf (.cells [ptr f].toArray 26 (0, 0)) Hs] :
    Ret Tryz.prog 39 #[ptr bi, ptr bf] w fun v w' => v = .bool false ∧ Sat K w' Hs := by
  obtain ⟨l, hc, hl⟩ := hf.ex
  refine Ret.enter (n := 24) (args := [ptr bi, ptr bf]) Tryz.func39 rfl rfl ?_
  refine C.keep [(0, _), (1, _)] ⟨rfl, rfl, trivial⟩ ?_
  refine C.seq ?_
  refine C.region ?_
  refine R.ev rfl (E.assign rfl) ?_
  refine R.done ?_
  refine X.keep [(0, _), (1, _)] ⟨rfl, rfl, trivial⟩ ?_
  refine X.next ?_
  refine C.seq ?_
  refine C.drawn (SatS hs) ([1, 4, 8, 12, 16, 18], [0, 2, 3, 5, 6, 7, 9, 10, 11, 13, 14, 15, 17, 19, 20, 21]) (by kernel_rfl) ?_
  have hs := hs.drew
  first | refine D.evP 0 rfl (by kernel_rfl) rfl (fun _ => hs.to) (fun _ => E.fieldAddr0 35 rfl Tryz.underlying47 rfl Tryz.sz4 rfl) ?_ | refine D.evP 0 rfl (by kernel_rfl) rfl (fun _ => hs.to) (fun _ => E.fieldAddrN 35 rfl Tryz.underlying47 rfl Tryz.sz4 rfl) ?_
  refine D.ev 1 rfl (by kernel_rfl) rfl hs.to (fun _ hS => E.load1 rfl Tryz.underlying4 rfl (by first | exact hS.ldc | exact hS.ld rfl | exact hS.ld (by assumption) | exact by assumption | exact At.cellC (by assumption) | exact hS.ldK rfl | exact At.cellC ((by assumption : ∀ w', Sat _ w' _ → At w' _ _ _) _ hS) | exact (by assumption : ∀ w', Sat _ w' _ → World.cell? w' _ = some _) _ hS)) ?_
  refine D.evP 2 rfl (by kernel_rfl) rfl (fun _ => hs.to) (fun _ => E.notF rfl) ?_
  refine D.evP 3 rfl (by kernel_rfl) rfl (fun _ => hs.to) (fun _ => E.move rfl) ?_
  refine D.evG 4 rfl (by kernel_rfl) rfl rfl rfl hs.to (fun _ hS => E.load1 rfl Tryz.underlying26 rfl (by first | exact hS.ldc | exact hS.ld rfl | exact hS.ld (by assumption) | exact by assumption | exact At.cellC (by assumption) | exact hS.ldK rfl | exact At.cellC ((by assumption : ∀ w', Sat _ w' _ → At w' _ _ _) _ hS) | exact (by assumption : ∀ w', Sat _ w' _ → World.cell? w' _ = some _) _ hS)) ?_
  refine D.evPG 5 rfl (by kernel_rfl) rfl rfl rfl (fun _ => hs.to) (fun _ => E.nilCheck rfl) ?_
  first | refine D.evPG 6 rfl (by kernel_rfl) rfl rfl rfl (fun _ => hs.to) (fun _ => E.fieldAddr0 0 rfl Tryz.underlying75 rfl Tryz.sz32 rfl) ?_ | refine D.evPG 6 rfl (by kernel_rfl) rfl rfl rfl (fun _ => hs.to) (fun _ => E.fieldAddrN 0 rfl Tryz.underlying75 rfl Tryz.sz32 rfl) ?_
  first | refine D.evPG 7 rfl (by kernel_rfl) rfl rfl rfl (fun _ => hs.to) (fun _ => E.fieldAddr0 2 rfl Tryz.underlying32 rfl Tryz.sz3 rfl) ?_ | refine D.evPG 7 rfl (by kernel_rfl) rfl rfl rfl (fun _ => hs.to) (fun _ => E.fieldAddrN 2 rfl Tryz.underlying32 rfl Tryz.sz3 rfl) ?_
  refine D.evG 8 rfl (by kernel_rfl) rfl rfl rfl hs.to (fun _ hS => E.load1 rfl Tryz.underlying3 rfl (by first | exact hS.ldc | exact hS.ld rfl | exact hS.ld (by assumption) | exact by assumption | exact At.cellC (by assumption) | exact hS.ldK rfl | exact At.cellC ((by assumption : ∀ w', Sat _ w' _ → At w' _ _ _) _ hS) | exact (by assumption : ∀ w', Sat _ w' _ → World.cell? w' _ = some _) _ hS)) ?_
  refine D.evPG 9 rfl (by kernel_rfl) rfl rfl rfl (fun _ => hs.to) (fun _ => (E.neq rfl rfl).isF (by decide)) ?_
  refine D.evP 10 rfl (by kernel_rfl) rfl (fun _ => hs.to) (fun _ => E.pickT rfl rfl) ?_
  refine D.evP 11 rfl (by kernel_rfl) rfl (fun _ => hs.to) (fun _ => E.move rfl) ?_
  refine D.skipP 17 rfl (by kernel_rfl) rfl rfl rfl (fun _ => hs.to) ?_
  refine D.skip 12 rfl (by kernel_rfl) rfl rfl rfl hs.to ?_
  refine D.skipP 13 rfl (by kernel_rfl) rfl rfl rfl (fun _ => hs.to) ?_
  refine D.skipP 14 rfl (by kernel_rfl) rfl rfl rfl (fun _ => hs.to) ?_
  refine D.skipP 15 rfl (by kernel_rfl) rfl rfl rfl (fun _ => hs.to) ?_
  refine D.skip 16 rfl (by kernel_rfl) rfl rfl rfl hs.to ?_
  refine D.skip 18 rfl (by kernel_rfl) rfl rfl rfl hs.to ?_
  refine D.skipP 19 rfl (by kernel_rfl) rfl rfl rfl (fun _ => hs.to) ?_
  refine D.evP 20 rfl (by kernel_rfl) rfl (fun _ => hs.to) (fun _ => E.pickF rfl rfl) ?_
  refine D.evP 21 rfl (by kernel_rfl) rfl (fun _ => hs.to) (fun _ => E.assign rfl) ?_
  refine D.done rfl (by kernel_rfl) ?_
  refine X.keep [(2, _)] ⟨rfl, trivial⟩ ?_
  refine X.next ?_
  refine C.ret ?_
  refine X.ret1 rfl rfl ?_
  exact ⟨rfl, hs⟩
theorem reason4_any [hf : KFeed K f d] (hs : Sat K w Hs) [i1 : InH bi (.cells (encIt o).toArray 47 (0, 0)) Hs] [i2 : InH bf (.cells [ptr f].toArray 26 (0, 0)) Hs] :
    Ret Tryz.prog 40 #[ptr bi, ptr bf] w fun v w' => v = .bool false ∧ Sat K w' Hs := by
  obtain ⟨l, hc, hl⟩ := hf.ex
  refine Ret.enter (n := 31) (args := [ptr bi, ptr bf]) Tryz.func40 rfl rfl ?_
  refine C.keep [(0, _), (1, _)] ⟨rfl, rfl, trivial⟩ ?_
  refine C.seq ?_
  refine C.region ?_
  refine R.ev rfl (E.assign rfl) ?_
  refine R.done ?_
  refine X.keep [(0, _), (1, _)] ⟨rfl, rfl, trivial⟩ ?_
  refine X.next ?_
  refine C.seq ?_
  refine C.drawn (SatS hs) ([1, 4, 8, 14, 18, 22, 24], [0, 2, 3, 5, 6, 7, 9, 10, 11, 12, 13, 15, 16, 17, 19, 20, 21, 23, 26, 27, 28]) (by kernel_rfl) ?_
  have hs := hs.drew
  first | refine D.evP 0 rfl (by kernel_rfl) rfl (fun _ => hs.to) (fun _ => E.fieldAddr0 35 rfl Tryz.underlying47 rfl Tryz.sz4 rfl) ?_ | refine D.evP 0 rfl (by kernel_rfl) rfl (fun _ => hs.to) (fun _ => E.fieldAddrN 35 rfl Tryz.underlying47 rfl Tryz.sz4 rfl) ?_
  refine D.ev 1 rfl (by kernel_rfl) rfl hs.to (fun _ hS => E.load1 rfl Tryz.underlying4 rfl (by first | exact hS.ldc | exact hS.ld rfl | exact hS.ld (by assumption) | exact by assumption | exact At.cellC (by assumption) | exact hS.ldK rfl | exact At.cellC ((by assumption : ∀ w', Sat _ w' _ → At w' _ _ _) _ hS) | exact (by assumption : ∀ w', Sat _ w' _ → World.cell? w' _ = some _) _ hS)) ?_
  refine D.evP 2 rfl (by kernel_rfl) rfl (fun _ => hs.to) (fun _ => E.notF rfl) ?_
  refine D.evP 3 rfl (by kernel_rfl) rfl (fun _ => hs.to) (fun _ => E.move rfl) ?_
  refine D.evG 4 rfl (by kernel_rfl) rfl rfl rfl hs.to (fun _ hS => E.load1 rfl Tryz.underlying26 rfl (by first | exact hS.ldc | exact hS.ld rfl | exact hS.ld (by assumption) | exact by assumption | exact At.cellC (by assumption) | exact hS.ldK rfl | exact At.cellC ((by assumption : ∀ w', Sat _ w' _ → At w' _ _ _) _ hS) | exact (by assumption : ∀ w', Sat _ w' _ → World.cell? w' _ = some _) _ hS)) ?_
  refine D.evPG 5 rfl (by kernel_rfl) rfl rfl rfl (fun _ => hs.to) (fun _ => E.nilCheck rfl) ?_
  first | refine D.evPG 6 rfl (by kernel_rfl) rfl rfl rfl (fun _ => hs.to) (fun _ => E.fieldAddr0 0 rfl Tryz.underlying75 rfl Tryz.sz32 rfl) ?_ | refine D.evPG 6 rfl (by kernel_rfl) rfl rfl rfl (fun _ => hs.to) (fun _ => E.fieldAddrN 0 rfl Tryz.underlying75 rfl Tryz.sz32 rfl) ?_
  first | refine D.evPG 7 rfl (by kernel_rfl) rfl rfl rfl (fun _ => hs.to) (fun _ => E.fieldAddr0 4 rfl Tryz.underlying32 rfl Tryz.sz30 rfl) ?_ | refine D.evPG 7 rfl (by kernel_rfl) rfl rfl rfl (fun _ => hs.to) (fun _ => E.fieldAddrN 4 rfl Tryz.underlying32 rfl Tryz.sz30 rfl) ?_
  refine D.evG 8 rfl (by kernel_rfl) rfl rfl rfl hs.to (fun _ hS => E.load1 rfl Tryz.underlying30 rfl (by first | exact hS.ldc | exact hS.ld rfl | exact hS.ld (by assumption) | exact by assumption | exact At.cellC (by assumption) | exact hS.ldK rfl | exact At.cellC ((by assumption : ∀ w', Sat _ w' _ → At w' _ _ _) _ hS) | exact (by assumption : ∀ w', Sat _ w' _ → World.cell? w' _ = some _) _ hS)) ?_
  refine D.evPG 9 rfl (by kernel_rfl) rfl rfl rfl (fun _ => hs.to) (fun _ => E.lenSl rfl Tryz.underlying30) ?_
  refine D.evPG 10 rfl (by kernel_rfl) rfl rfl rfl (fun _ => hs.to) (fun _ => (E.gtr rfl rfl).isF (by decide)) ?_
  refine D.evP 11 rfl (by kernel_rfl) rfl (fun _ => hs.to) (fun _ => E.pickT rfl rfl) ?_
  refine D.evP 12 rfl (by kernel_rfl) rfl (fun _ => hs.to) (fun _ => E.move rfl) ?_
  refine D.skipP 13 rfl (by kernel_rfl) rfl rfl rfl (fun _ => hs.to) ?_
  refine D.skip 14 rfl (by kernel_rfl) rfl rfl rfl hs.to ?_
  refine D.skipP 15 rfl (by kernel_rfl) rfl rfl rfl (fun _ => hs.to) ?_
  refine D.evP 16 rfl (by kernel_rfl) rfl (fun _ => hs.to) (fun _ => E.pickF rfl rfl) ?_
  refine D.evP 17 rfl (by kernel_rfl) rfl (fun _ => hs.to) (fun _ => E.move rfl) ?_
  refine D.skipP 23 rfl (by kernel_rfl) rfl rfl rfl (fun _ => hs.to) ?_
  refine D.skip 18 rfl (by kernel_rfl) rfl rfl rfl hs.to ?_
  refine D.skipP 19 rfl (by kernel_rfl) rfl rfl rfl (fun _ => hs.to) ?_
  refine D.skipP 20 rfl (by kernel_rfl) rfl rfl rfl (fun _ => hs.to) ?_
  refine D.skipP 21 rfl (by kernel_rfl) rfl rfl rfl (fun _ => hs.to) ?_
  refine D.skip 22 rfl (by kernel_rfl) rfl rfl rfl hs.to ?_
  refine D.skip 24 rfl (by kernel_rfl) rfl rfl rfl hs.to ?_
  refine D.act 25 rfl (by kernel_rfl) ?_
  refine R.gskip rfl rfl rfl ?_
  refine D.backT (by kernel_rfl) ?_
  refine D.skipP 26 rfl (by kernel_rfl) rfl rfl rfl (np (by kernel_rfl)) ?_
  refine D.evP 27 rfl (by kernel_rfl) rfl (np (by kernel_rfl)) (fun _ => E.pickF rfl rfl) ?_
  refine D.evP 28 rfl (by kernel_rfl) rfl (np (by kernel_rfl)) (fun _ => E.assign rfl) ?_
  refine D.done rfl (by kernel_rfl) ?_
  refine X.keep [(2, _)] ⟨rfl, trivial⟩ ?_
  refine X.next ?_
  refine C.ret ?_
  refine X.ret1 rfl rfl ?_
  exact ⟨rfl, hs⟩
/-- why an item is not passed on -/
def rsn (o : It) (N : List (List UInt8)) : Int := if o.frm = nbT then 1 else if sel N = false then 2 else 0
def hold (o : It) (N : List (List UInt8)) (k : Nat) : Bool := if k = 1 then decide (o.frm = nbT) else if k = 2 then !(sel N) else false
theorem rsn_some {k : Nat} (hk : k < 5) (h : hold o N k = true) (hno : ∀ j, j < k → hold o N j = false) : rsn o N = (k : Int) := by
  have h1 := hno 1
  have h2 := hno 2
  unfold hold at h h1 h2
  unfold rsn
  match k, hk with
  | 0, _ => simp at h
  | 1, _ => simp at h; simp [h]
  | 2, _ => simp at h h1; simp [h, h1]
  | 3, _ => simp at h
  | 4, _ => simp at h
theorem rsn_none (hno : ∀ j, j < 5 → hold o N j = false) : rsn o N = 0 := by
  have h1 := hno 1 (by decide)
  have h2 := hno 2 (by decide)
  unfold hold at h1 h2
  simp at h1 h2
  simp [rsn, h1, h2]
theorem reason_any [hf : KFeed K f d] (hs : Sat K w Hs) [hN : ItOk K o N] (hn : ∀ n ∈ N, n.length ≤ 1000000) (hN1 : N.length ≤ 1000000) :
    Ret Tryz.prog 14 #[ptr f, evIt o] w fun v w' => v = .int .i64 (rsn o N) ∧ Sat K w' Hs := by
  refine Ret.enter (n := 30) (args := [ptr f, evIt o]) Tryz.func14 rfl rfl ?_
  refine C.keep [(0, _), (1, _)] ⟨rfl, rfl, trivial⟩ ?_
  refine C.seq ?_
  refine C.region ?_
  refine R.sbox1 hs rfl rfl rfl ?_
  intro b2 w2 hs
  refine R.sboxA hs rfl rfl ?_
  intro b3 w3 hs
  refine R.ev rfl (E.assign rfl) ?_
  refine R.done ?_
  refine X.keep [(2, _), (3, _)] ⟨rfl, rfl, trivial⟩ ?_
  refine X.next ?_
  refine C.seq ?_
  refine C.seq ?_
  refine C.region ?_
  refine R.ev rfl (E.load1 rfl Tryz.underlying26 rfl (by first | exact hs.ldc | exact hs.ld rfl | exact hs.ld (by assumption) | exact by assumption | exact At.cellC (by assumption) | exact hs.ldK rfl)) ?_
  refine R.ev rfl (E.eqlNilF rfl rfl Tryz.underlying26) ?_
  refine R.done ?_
  refine X.keep [(2, _), (3, _), (9, _)] ⟨rfl, rfl, rfl, trivial⟩ ?_
  refine X.next ?_
  refine C.cfalse rfl ?_
  refine C.skip ?_
  refine X.next ?_
  refine C.seq ?_
  refine C.region ?_
  refine R.ev rfl (E.makeFunc rfl rfl) ?_
  refine R.ev rfl (E.makeFunc rfl rfl) ?_
  refine R.ev rfl (E.makeFunc rfl rfl) ?_
  refine R.ev rfl (E.makeFunc rfl rfl) ?_
  refine R.cbuildF (vs := [.func (.func 36) #[] #[ptr b3, ptr b2], .func (.func 37) #[] #[ptr b3, ptr b2], .func (.func 39) #[] #[ptr b3, ptr b2], .func (.func 40) #[] #[ptr b3, ptr b2]]) (cells := [.nilFunc, .func (.func 36) #[] #[ptr b3, ptr b2], .func (.func 37) #[] #[ptr b3, ptr b2], .func (.func 39) #[] #[ptr b3, ptr b2], .func (.func 40) #[] #[ptr b3, ptr b2]]) hs rfl Tryz.underlying92 Tryz.sz25 Tryz.zr25 (by kernel_rfl) rfl rfl rfl ?_
  intro b5 w5 hs
  refine R.ev rfl (E.assign rfl) ?_
  refine R.done ?_
  refine X.keep [(5, _)] ⟨rfl, trivial⟩ ?_
  refine X.next ?_
  refine C.seq ?_
  refine C.seq ?_
  refine C.region ?_
  refine R.ev rfl (E.move rfl) ?_
  refine R.ev rfl (E.lenSl rfl Tryz.underlying92) ?_
  refine R.ev rfl (E.move rfl) ?_
  refine R.done ?_
  refine X.keep [(15, _), (16, _), (17, _)] ⟨rfl, rfl, rfl, trivial⟩ ?_
  refine X.next ?_
  refine C.block ?_
  refine C.loop (T := Nat) [(15, _), (16, _)] (fun k => [(17, .int .i64 (k : Nat))]) (fun k w' => k ≤ 5 ∧ (∀ j, j < k → hold o N j = false) ∧ Sat K w' (row b5 25 [.nilFunc, .func (.func 36) #[] #[ptr b3, ptr b2], .func (.func 37) #[] #[ptr b3, ptr b2], .func (.func 39) #[] #[ptr b3, ptr b2], .func (.func 40) #[] #[ptr b3, ptr b2]] :: row b3 47 (encIt o) :: row b2 26 [ptr f] :: Hs)) (fun k => 5 - k) (0) ⟨rfl, rfl, rfl, trivial⟩ ⟨by omega, by omega, hs⟩ ?_
  rintro k w6 ⟨hk, hno, hs⟩
  refine C.keep [(15, _), (16, _), (17, _)] ⟨rfl, rfl, rfl, trivial⟩ ?_
  refine C.seq ?_
  refine C.region ?_
  refine R.ev rfl (E.lss rfl rfl) ?_
  refine R.done ?_
  refine X.keep [(15, _), (16, _), (17, _), (18, _)] ⟨rfl, rfl, rfl, rfl, trivial⟩ ?_
  refine X.next ?_
  refine C.seq ?_
  refine C.cdec rfl (fun h18 => ?_) (fun h18 => ?_)
  · have hk5 : k < 5 := by omega
    obtain ⟨fv, hfv, hcal⟩ : ∃ fv, w6.cell? ⟨b5, 0 + k * 1, none⟩ = some fv ∧ (k = 0 ∨ ∃ fid, fv = .func (.func fid) ([] : List Value).toArray [ptr b3, ptr b2].toArray ∧ Callable Tryz.prog fid ∧ Ret Tryz.prog fid ([] ++ [] ++ [ptr b3, ptr b2]).toArray w6 fun v w' => v = .bool (hold o N k) ∧ Sat K w' (row b5 25 [.nilFunc, .func (.func 36) #[] #[ptr b3, ptr b2], .func (.func 37) #[] #[ptr b3, ptr b2], .func (.func 39) #[] #[ptr b3, ptr b2], .func (.func 40) #[] #[ptr b3, ptr b2]] :: row b3 47 (encIt o) :: row b2 26 [ptr f] :: Hs)) := by
      rw [Nat.zero_add, Nat.mul_one]
      match k, hk5 with
      | 0, _ => exact ⟨_, hs.ld rfl, .inl rfl⟩
      | 1, _ => exact ⟨_, hs.ld rfl, .inr ⟨_, rfl, ⟨_, _, Tryz.func36, rfl, by kernel_rfl⟩, reason1_any hs⟩⟩
      | 2, _ => exact ⟨_, hs.ld rfl, .inr ⟨_, rfl, ⟨_, _, Tryz.func37, rfl, by kernel_rfl⟩, reason2_any hs hn hN1⟩⟩
      | 3, _ => exact ⟨_, hs.ld rfl, .inr ⟨_, rfl, ⟨_, _, Tryz.func39, rfl, by kernel_rfl⟩, reason3_any hs⟩⟩
      | 4, _ => exact ⟨_, hs.ld rfl, .inr ⟨_, rfl, ⟨_, _, Tryz.func40, rfl, by kernel_rfl⟩, reason4_any hs⟩⟩
    refine C.skip ?_
    refine X.next ?_
    refine C.seq ?_
    refine C.block ?_
    refine C.seq ?_
    refine C.region ?_
    refine R.ev rfl (E.move rfl) ?_
    refine R.ev rfl (E.indexAddr (i := k) rfl rfl Tryz.underlying92 Tryz.sz25 rfl (by omega)) ?_
    refine R.ev rfl (E.load1 rfl Tryz.underlying25 rfl hfv) ?_
    refine R.ev rfl (E.assign rfl) ?_
    refine R.ev rfl (E.assign rfl) ?_
    refine R.done ?_
    refine X.keep [(6, _), (7, _), (15, _), (16, _), (17, _)] ⟨rfl, rfl, rfl, rfl, rfl, trivial⟩ ?_
    refine X.next ?_
    refine C.seq ?_
    refine C.region ?_
    refine R.ev rfl (E.move rfl) ?_
    refine R.ev rfl (E.neq rfl rfl) ?_
    refine R.ev rfl (E.move rfl) ?_
    refine R.split 24 rfl (fun h24 => ?_) (fun h24 => ?_)
    · refine R.gyes rfl rfl ?_
      refine R.ev rfl (E.move rfl) ?_
      refine R.gyes rfl rfl ?_
      rcases hcal with h0 | ⟨fid, rfl, hcal, hret⟩
      · exact absurd (of_decide_eq_true h24) (by omega)
      refine R.callV (vs := []) hcal rfl rfl rfl hret ?_
      rintro _ w7 ⟨rfl, hs⟩
      refine R.ev rfl (E.pickT rfl rfl) ?_
      refine R.done ?_
      refine X.keep [(6, _), (15, _), (16, _), (17, _), (27, _)] ⟨rfl, rfl, rfl, rfl, rfl, trivial⟩ ?_
      refine X.next ?_
      refine C.cbool rfl (fun h27 => ?_) (fun h27 => ?_)
      · refine C.seq ?_
        refine C.region ?_
        refine R.ev rfl (E.move rfl) ?_
        refine R.ev rfl (E.assign rfl) ?_
        refine R.done ?_
        refine X.keep [(4, _)] ⟨rfl, trivial⟩ ?_
        refine X.next ?_
        refine C.ret ?_
        refine X.blockRet ?_
        refine X.thenRet ?_
        refine X.loopRet ?_
        refine X.blockRet ?_
        refine X.thenRet ?_
        refine X.ret1 rfl rfl ?_
        exact ⟨by rw [rsn_some hk5 h27 hno], hs.to⟩
      · refine C.skip ?_
        refine X.blockNormal ?_
        refine X.next ?_
        refine C.region ?_
        refine R.ev rfl (E.add rfl rfl (by omega) (by omega)) ?_
        refine R.ev rfl (E.move rfl) ?_
        refine R.done ?_
        refine X.keep [(15, _), (16, _), (17, _)] ⟨rfl, rfl, rfl, trivial⟩ ?_
        have hhk : hold o N k = false := by
          first
            | exact h27
            | (have h0 : k = 0 := by have := of_decide_eq_false h24; omega
               rw [h0]; rfl)
        exact X.again (k + 1) ⟨rfl, rfl, rfl, trivial⟩ ⟨by omega, fun j hj => by rcases Nat.lt_or_ge j k with h | h; exact hno j h; rw [show j = k by omega]; exact hhk, hs⟩ (by omega)
    · refine R.gskip rfl rfl rfl ?_
      refine R.gskip rfl rfl rfl ?_
      refine R.ev rfl (E.pickF rfl rfl) ?_
      refine R.done ?_
      refine X.keep [(6, _), (15, _), (16, _), (17, _), (27, _)] ⟨rfl, rfl, rfl, rfl, rfl, trivial⟩ ?_
      refine X.next ?_
      refine C.cfalse rfl ?_
      refine C.skip ?_
      refine X.blockNormal ?_
      refine X.next ?_
      refine C.region ?_
      refine R.ev rfl (E.add rfl rfl (by omega) (by omega)) ?_
      refine R.ev rfl (E.move rfl) ?_
      refine R.done ?_
      refine X.keep [(15, _), (16, _), (17, _)] ⟨rfl, rfl, rfl, trivial⟩ ?_
      have hhk : hold o N k = false := by
        first
          | exact h27
          | (have h0 : k = 0 := by have := of_decide_eq_false h24; omega
             rw [h0]; rfl)
      exact X.again (k + 1) ⟨rfl, rfl, rfl, trivial⟩ ⟨by omega, fun j hj => by rcases Nat.lt_or_ge j k with h | h; exact hno j h; rw [show j = k by omega]; exact hhk, hs⟩ (by omega)
  · refine C.exit ?_
    refine X.thenExit ?_
    refine X.loopExit ?_
    refine X.blockExit ?_
    refine X.next ?_
    refine C.seq ?_
    refine C.region ?_
    refine R.ev rfl (E.assign rfl) ?_
    refine R.done ?_
    refine X.keep [(4, _)] ⟨rfl, trivial⟩ ?_
    refine X.next ?_
    refine C.ret ?_
    refine X.ret1 rfl rfl ?_
    exact ⟨by rw [rsn_none fun j hj => hno j (by omega)], hs.to⟩
def dueI (o : It) (N : List (List UInt8)) (d : Int) : Int := if rsn o N = 0 then o.arr + d else 0
theorem due_any [hf : KFeed K f d] (hs : Sat K w Hs) [hN : ItOk K o N] (hn : ∀ n ∈ N, n.length ≤ 1000000) (hN1 : N.length ≤ 1000000) (hd : 0 ≤ d ∧ d ≤ 20160) (ha : 0 ≤ o.arr ∧ o.arr ≤ 1000000) :
    Ret Tryz.prog 9 #[ptr f, evIt o] w fun v w' => v = .tuple #[.int .i64 (dueI o N d), .bool (decide (rsn o N = 0))] ∧ Sat K w' Hs := by
  obtain ⟨l, hc, hl⟩ := hf.ex
  refine Ret.enter (n := 27) (args := [ptr f, evIt o]) Tryz.func9 rfl rfl ?_
  refine C.keep [(0, _), (1, _)] ⟨rfl, rfl, trivial⟩ ?_
  refine C.seq ?_
  refine C.region ?_
  refine R.sboxA hs rfl rfl ?_
  intro b3 w3 hs
  refine R.ev rfl (E.assign rfl) ?_
  refine R.ev rfl (E.assign rfl) ?_
  refine R.done ?_
  refine X.keep [(0, _), (3, _)] ⟨rfl, rfl, trivial⟩ ?_
  refine X.next ?_
  refine C.seq ?_
  refine C.seq ?_
  refine C.region ?_
  refine R.ev rfl (E.move rfl) ?_
  refine R.ev rfl (E.loadRowC rfl Tryz.underlying47 rfl Tryz.sz47 (by first | exact ⟨hs.ldA, by first | rfl | assumption | exact encV_len _ | exact Enc.len _ | exact len_ub (by assumption)⟩ | exact ⟨hs.ldP rfl, by first | rfl | assumption | exact encV_len _ | exact Enc.len _ | exact len_ub (by assumption)⟩ | exact ⟨hs.ldM rfl rfl, by first | rfl | assumption | exact encV_len _ | exact Enc.len _ | exact len_ub (by assumption)⟩ | exact ⟨hs.ldM (by assumption) (by first | rfl | assumption), by first | rfl | assumption | exact encV_len _ | exact Enc.len _ | exact len_ub (by assumption)⟩ | exact ⟨by assumption, by first | rfl | assumption | exact encV_len _ | exact Enc.len _ | exact len_ub (by assumption)⟩ | exact hs.ldp | exact At.partC (by assumption))) ?_
  refine R.call ⟨_, _, Tryz.func14, rfl, by kernel_rfl⟩ rfl rfl (reason_any (o := o) (N := N) (hf := hf) hs hn hN1) ?_
  rintro _ w1 ⟨rfl, hs⟩
  refine R.ev rfl (E.neq rfl rfl) ?_
  refine R.done ?_
  refine X.keep [(0, _), (3, _), (9, _)] ⟨rfl, rfl, rfl, trivial⟩ ?_
  refine X.next ?_
  refine C.cdec rfl (fun h9 => ?_) (fun h9 => ?_)
  · refine C.seq ?_
    refine C.region ?_
    refine R.ev rfl (E.assign rfl) ?_
    refine R.ev rfl (E.assign rfl) ?_
    refine R.done ?_
    refine X.keep [(4, _), (5, _)] ⟨rfl, rfl, trivial⟩ ?_
    refine X.next ?_
    refine C.ret ?_
    refine X.thenRet ?_
    refine X.ret2 rfl rfl rfl ?_
    exact ⟨by rw [dueI, if_neg h9, decide_eq_false h9], hs.to⟩
  · refine C.skip ?_
    refine X.next ?_
    refine C.seq ?_
    refine C.seq ?_
    refine C.drawn (SatS hs) ([1, 6], [0, 2, 3, 4, 5, 7, 8]) (by kernel_rfl) ?_
    have hs := hs.drew
    first | refine D.evP 0 rfl (by kernel_rfl) rfl (fun _ => hs.to) (fun _ => E.fieldAddr0 37 rfl Tryz.underlying47 rfl Tryz.sz3 rfl) ?_ | refine D.evP 0 rfl (by kernel_rfl) rfl (fun _ => hs.to) (fun _ => E.fieldAddrN 37 rfl Tryz.underlying47 rfl Tryz.sz3 rfl) ?_
    refine D.evP 2 rfl (by kernel_rfl) rfl (fun _ => hs.to) (fun _ => E.move rfl) ?_
    refine D.evP 3 rfl (by kernel_rfl) rfl (fun _ => hs.to) (fun _ => E.nilCheck rfl) ?_
    first | refine D.evP 4 rfl (by kernel_rfl) rfl (fun _ => hs.to) (fun _ => E.fieldAddr0 0 rfl Tryz.underlying75 rfl Tryz.sz32 rfl) ?_ | refine D.evP 4 rfl (by kernel_rfl) rfl (fun _ => hs.to) (fun _ => E.fieldAddrN 0 rfl Tryz.underlying75 rfl Tryz.sz32 rfl) ?_
    first | refine D.evP 5 rfl (by kernel_rfl) rfl (fun _ => hs.to) (fun _ => E.fieldAddr0 3 rfl Tryz.underlying32 rfl Tryz.sz3 rfl) ?_ | refine D.evP 5 rfl (by kernel_rfl) rfl (fun _ => hs.to) (fun _ => E.fieldAddrN 3 rfl Tryz.underlying32 rfl Tryz.sz3 rfl) ?_
    refine D.ev 1 rfl (by kernel_rfl) rfl hs.to (fun _ hS => E.load1 rfl Tryz.underlying3 rfl (by first | exact hS.ldc | exact hS.ld rfl | exact hS.ld (by assumption) | exact by assumption | exact At.cellC (by assumption) | exact hS.ldK rfl | exact At.cellC ((by assumption : ∀ w', Sat _ w' _ → At w' _ _ _) _ hS) | exact (by assumption : ∀ w', Sat _ w' _ → World.cell? w' _ = some _) _ hS)) ?_
    refine D.ev 6 rfl (by kernel_rfl) rfl hs.to (fun _ hS => E.load1 rfl Tryz.underlying3 rfl (by first | exact hS.ldc | exact hS.ld rfl | exact hS.ld (by assumption) | exact by assumption | exact At.cellC (by assumption) | exact hS.ldK rfl | exact At.cellC ((by assumption : ∀ w', Sat _ w' _ → At w' _ _ _) _ hS) | exact (by assumption : ∀ w', Sat _ w' _ → World.cell? w' _ = some _) _ hS)) ?_
    refine D.evP 7 rfl (by kernel_rfl) rfl (fun _ => hs.to) (fun _ => E.sub rfl rfl (by omega) (by omega)) ?_
    refine D.evP 8 rfl (by kernel_rfl) rfl (fun _ => hs.to) (fun _ => (E.gtr rfl rfl).isF (by omega)) ?_
    refine D.done rfl (by kernel_rfl) ?_
    refine X.keep [(0, _), (3, _), (18, _)] ⟨rfl, rfl, rfl, trivial⟩ ?_
    refine X.next ?_
    refine C.cfalse rfl ?_
    refine C.skip ?_
    refine X.next ?_
    refine C.seq ?_
    refine C.drawn (SatS hs) ([1, 6], [0, 2, 3, 4, 5, 7, 8, 9]) (by kernel_rfl) ?_
    have hs := hs.drew
    first | refine D.evP 0 rfl (by kernel_rfl) rfl (fun _ => hs.to) (fun _ => E.fieldAddr0 37 rfl Tryz.underlying47 rfl Tryz.sz3 rfl) ?_ | refine D.evP 0 rfl (by kernel_rfl) rfl (fun _ => hs.to) (fun _ => E.fieldAddrN 37 rfl Tryz.underlying47 rfl Tryz.sz3 rfl) ?_
    refine D.evP 2 rfl (by kernel_rfl) rfl (fun _ => hs.to) (fun _ => E.move rfl) ?_
    refine D.evP 3 rfl (by kernel_rfl) rfl (fun _ => hs.to) (fun _ => E.nilCheck rfl) ?_
    first | refine D.evP 4 rfl (by kernel_rfl) rfl (fun _ => hs.to) (fun _ => E.fieldAddr0 0 rfl Tryz.underlying75 rfl Tryz.sz32 rfl) ?_ | refine D.evP 4 rfl (by kernel_rfl) rfl (fun _ => hs.to) (fun _ => E.fieldAddrN 0 rfl Tryz.underlying75 rfl Tryz.sz32 rfl) ?_
    first | refine D.evP 5 rfl (by kernel_rfl) rfl (fun _ => hs.to) (fun _ => E.fieldAddr0 3 rfl Tryz.underlying32 rfl Tryz.sz3 rfl) ?_ | refine D.evP 5 rfl (by kernel_rfl) rfl (fun _ => hs.to) (fun _ => E.fieldAddrN 3 rfl Tryz.underlying32 rfl Tryz.sz3 rfl) ?_
    refine D.ev 1 rfl (by kernel_rfl) rfl hs.to (fun _ hS => E.load1 rfl Tryz.underlying3 rfl (by first | exact hS.ldc | exact hS.ld rfl | exact hS.ld (by assumption) | exact by assumption | exact At.cellC (by assumption) | exact hS.ldK rfl | exact At.cellC ((by assumption : ∀ w', Sat _ w' _ → At w' _ _ _) _ hS) | exact (by assumption : ∀ w', Sat _ w' _ → World.cell? w' _ = some _) _ hS)) ?_
    refine D.ev 6 rfl (by kernel_rfl) rfl hs.to (fun _ hS => E.load1 rfl Tryz.underlying3 rfl (by first | exact hS.ldc | exact hS.ld rfl | exact hS.ld (by assumption) | exact by assumption | exact At.cellC (by assumption) | exact hS.ldK rfl | exact At.cellC ((by assumption : ∀ w', Sat _ w' _ → At w' _ _ _) _ hS) | exact (by assumption : ∀ w', Sat _ w' _ → World.cell? w' _ = some _) _ hS)) ?_
    refine D.evP 7 rfl (by kernel_rfl) rfl (fun _ => hs.to) (fun _ => E.add rfl rfl (by omega) (by omega)) ?_
    refine D.evP 8 rfl (by kernel_rfl) rfl (fun _ => hs.to) (fun _ => E.assign rfl) ?_
    refine D.evP 9 rfl (by kernel_rfl) rfl (fun _ => hs.to) (fun _ => E.assign rfl) ?_
    refine D.done rfl (by kernel_rfl) ?_
    refine X.keep [(4, _), (5, _)] ⟨rfl, rfl, trivial⟩ ?_
    refine X.next ?_
    refine C.ret ?_
    refine X.ret2 rfl rfl rfl ?_
    exact ⟨by rw [dueI, if_pos (by simpa using h9), decide_eq_true (by simpa using h9)], hs.to⟩
end Go.Proofs.YtifghjeapfijkaaGreatDoor
