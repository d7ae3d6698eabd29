/-
  package backlog: the entries as a list, what is outstanding as a list of pairs; the methods as plain functions.
-/
import Derived.Test.YtifghjeapfijkaaGreatDoorMapOps
import Derived.Test.YtifghjeapfijkaaGreatDoorPtr
import Derived.Test.YtifghjeapfijkaaGreatDoorTypes
namespace Go.Proofs.YtifghjeapfijkaaGreatDoor
open Go.Eng Go.RowKit

instance : ZeroEnc Tryz.prog 4 Value.bool false := ⟨Tryz.zr4⟩
structure Ent where
  id : Vec 32
  due : Int
  tries : Int
deriving DecidableEq
def encE (o : Ent) : List Value := o.id.1.map ub ++ [.int .i64 o.due, .int .i64 o.tries]
instance {o : Ent} : CellOf (encE o) 33 (.int .i64 o.tries) := ⟨by simp [encE, o.id.2]⟩
instance {o : Ent} : CellOf (encE o) 32 (.int .i64 o.due) := ⟨by simp [encE, o.id.2]⟩
instance {o : Ent} : PartOf (encE o) 0 32 (o.id.1.map ub) := PartOf.mk' (c1 := []) rfl rfl (encV_len _)
instance : Enc encE 34 := ⟨fun o => by simp [encE, o.id.2], fun o u hu => by
  simp only [encE, List.mem_append, List.mem_cons, List.not_mem_nil, or_false] at hu
  rcases hu with hu | rfl | rfl
  · exact ub_all _ u hu
  · rfl
  · rfl⟩
theorem encE_fits (o : Ent) (_ : (encE o).length = 34) : fitsAll (List.replicate 32 (lInt .u8) ++ List.replicate 2 (lInt .i64)) (encE o) = true := fitsAll_mk (fitsN o.id.2) rfl
theorem encE_eq {o o' : Ent} (_ : (encE o).length = 34) (_ : (encE o').length = 34) : cellsEq (encE o) (encE o') = decide (o = o') := by
  rw [encE, encE, cellsEq_app _ _ _ _ (by simp [o.id.2, o'.id.2]), cellsEq_vec, Bool.eq_iff_iff]
  cases o; cases o'; simp [cellsEq, cellEq]

theorem idxE_any {K : Kn} {Hs : List Hl} {fid : FuncId} {first cap : List Value} {p : Ent → Bool} {L : List Ent} {ad : Option Addr} {n c : Nat} {w : World} (hcal : Callable Tryz.prog fid) (hs : Sat K w Hs) [hrd : Rd encE 34 K Hs (.slice ad n c) L] (hn : n ≤ 9223372036854775807)
    (hf : ∀ y ∈ L, ∀ w', Sat K w' Hs → Ret Tryz.prog fid (first ++ [Value.agg (encE y).toArray] ++ cap).toArray w' fun v w'' => v = .bool (p y) ∧ Sat K w'' Hs) :
    Ret Tryz.prog 61 #[.slice ad n c, .func (.func fid) first.toArray cap.toArray] w fun v w' => v = .int .i64 (idxP p L) ∧ Sat K w' Hs := by
  have hln := hrd.len
  refine Ret.enter (n := 19) (args := [.slice ad n c, .func (.func fid) first.toArray cap.toArray]) Tryz.func61 rfl rfl ?_
  refine C.keep [(0, _), (1, _)] ⟨rfl, rfl, trivial⟩ ?_
  refine C.seq ?_
  refine C.region ?_
  refine R.ev rfl (E.assign rfl) ?_
  refine R.done ?_
  refine X.keep [(0, _), (1, _)] ⟨rfl, rfl, trivial⟩ ?_
  refine X.next ?_
  refine C.seq ?_
  refine C.seq ?_
  refine C.region ?_
  refine R.ev rfl (E.move rfl) ?_
  refine R.ev rfl (E.lenSl rfl Tryz.underlying77) ?_
  refine R.ev rfl (E.move rfl) ?_
  refine R.done ?_
  refine X.keep [(0, _), (1, _), (7, _), (8, _)] ⟨rfl, rfl, rfl, rfl, trivial⟩ ?_
  refine X.next ?_
  refine C.block ?_
  refine C.loop  [(0, _), (1, _), (7, _)] (fun k => [(8, .int .i64 (k : Nat))]) (fun k w' => k ≤ n ∧ Sat K w' Hs ∧ ∀ j, j < k → ∀ y, L[j]? = some y → p y = false) (fun k => n - k) (0) ⟨rfl, rfl, rfl, rfl, trivial⟩ ⟨Nat.zero_le _, hs, fun j h => by omega⟩ ?_
  rintro k w1 ⟨hk, hs, hno⟩
  refine C.keep [(0, _), (1, _), (7, _), (8, _)] ⟨rfl, rfl, rfl, rfl, trivial⟩ ?_
  refine C.seq ?_
  refine C.region ?_
  refine R.ev rfl (E.lss rfl rfl) ?_
  refine R.done ?_
  refine X.keep [(0, _), (1, _), (7, _), (8, _), (9, _)] ⟨rfl, rfl, rfl, rfl, rfl, trivial⟩ ?_
  refine X.next ?_
  refine C.seq ?_
  refine C.cdec rfl (fun h9 => ?_) (fun h9 => ?_)
  · obtain ⟨y, bk_y, of_y, hy, my, ly, rfl, Ay⟩ := hs.el (i := k) (ad := ad) (n := n) (c := c) (by omega)
    have ay := Ay _ hs
    refine C.skip ?_
    refine X.next ?_
    refine C.seq ?_
    refine C.block ?_
    refine C.seq ?_
    refine C.region ?_
    refine R.ev rfl (E.move rfl) ?_
    refine R.ev rfl (E.assign rfl) ?_
    refine R.done ?_
    refine X.keep [(0, _), (1, _), (5, _), (7, _), (8, _)] ⟨rfl, rfl, rfl, rfl, rfl, trivial⟩ ?_
    refine X.next ?_
    refine C.seq ?_
    refine C.region ?_
    refine R.ev rfl (E.move rfl) ?_
    refine R.ev rfl (E.move rfl) ?_
    refine R.ev rfl (E.move rfl) ?_
    refine R.ev rfl (E.indexAddr rfl rfl Tryz.underlying77 Tryz.sz86 rfl (by first | omega | decide)) ?_
    refine R.ev rfl (E.loadRowC rfl Tryz.underlying86 rfl Tryz.sz86 (by first | exact ⟨hs.ldA, by first | rfl | assumption | exact encV_len _ | exact Enc.len _ | exact len_ub (by assumption)⟩ | exact ⟨hs.ldP rfl, by first | rfl | assumption | exact encV_len _ | exact Enc.len _ | exact len_ub (by assumption)⟩ | exact ⟨hs.ldM rfl rfl, by first | rfl | assumption | exact encV_len _ | exact Enc.len _ | exact len_ub (by assumption)⟩ | exact ⟨hs.ldM (by assumption) (by first | rfl | assumption), by first | rfl | assumption | exact encV_len _ | exact Enc.len _ | exact len_ub (by assumption)⟩ | exact ⟨by assumption, by first | rfl | assumption | exact encV_len _ | exact Enc.len _ | exact len_ub (by assumption)⟩ | exact hs.ldp | exact At.partC (by assumption))) ?_
    refine R.callV hcal rfl rfl rfl (hf y my _ hs) ?_
    rintro _ w2 ⟨rfl, hs⟩
    refine R.done ?_
    refine X.keep [(0, _), (1, _), (5, _), (7, _), (8, _), (16, _)] ⟨rfl, rfl, rfl, rfl, rfl, rfl, trivial⟩ ?_
    refine X.next ?_
    refine C.cbool rfl (fun h16 => ?_) (fun h16 => ?_)
    · refine C.seq ?_
      refine C.region ?_
      refine R.ev rfl (E.move rfl) ?_
      refine R.ev rfl (E.assign rfl) ?_
      refine R.done ?_
      refine X.keep [(4, _)] ⟨rfl, trivial⟩ ?_
      refine X.next ?_
      refine C.ret ?_
      refine X.blockRet ?_
      refine X.thenRet ?_
      refine X.loopRet ?_
      refine X.blockRet ?_
      refine X.thenRet ?_
      refine X.ret1 rfl rfl ?_
      exact ⟨by rw [idxP_some hy h16 hno], hs⟩
    · refine C.skip ?_
      refine X.blockNormal ?_
      refine X.next ?_
      refine C.region ?_
      refine R.ev rfl (E.add rfl rfl (by omega) (by omega)) ?_
      refine R.ev rfl (E.move rfl) ?_
      refine R.done ?_
      refine X.keep [(0, _), (1, _), (7, _), (8, _)] ⟨rfl, rfl, rfl, rfl, trivial⟩ ?_
      exact X.again (k + 1) ⟨rfl, rfl, rfl, rfl, trivial⟩ ⟨by omega, hs, idxP_step hy h16 hno⟩ (by omega)
  · refine C.exit ?_
    refine X.thenExit ?_
    refine X.loopExit ?_
    refine X.blockExit ?_
    refine X.next ?_
    refine C.seq ?_
    refine C.region ?_
    refine R.ev rfl (E.assign rfl) ?_
    refine R.done ?_
    refine X.keep [(4, _)] ⟨rfl, trivial⟩ ?_
    refine X.next ?_
    refine C.ret ?_
    refine X.ret1 rfl rfl ?_
    exact ⟨by rw [idxP_none hno (by omega)], hs⟩
theorem delE_any {K : Kn} {F : Hl} {Rs : List Hl} {L : List Ent} {v : Value} {i j : Nat} {w : World} (hs : Sat K w (F :: Rs)) [hr : RowL 86 encE 34 v L F] (hij : i ≤ j) (hj : j ≤ L.length) (hn : L.length ≤ 1000000) :
    Ret Tryz.prog 63 #[v, .int .i64 i, .int .i64 j] w fun v' w' => ∃ F', RowL 86 encE 34 v' (L.take i ++ L.drop j) F' ∧ Sat K w' (F' :: Rs) := by
  obtain ⟨ad, cap, rfl, hc, hcm, had⟩ := hr.val
  refine Ret.enter (n := 33) (args := [.slice ad L.length cap, .int .i64 i, .int .i64 j]) Tryz.func63 rfl rfl ?_
  refine C.keep [(0, _), (1, _), (2, _)] ⟨rfl, rfl, rfl, trivial⟩ ?_
  refine C.seq ?_
  refine C.region ?_
  refine R.ev rfl (E.assign rfl) ?_
  refine R.done ?_
  refine X.keep [(0, _), (1, _), (2, _)] ⟨rfl, rfl, rfl, trivial⟩ ?_
  refine X.next ?_
  refine C.seq ?_
  refine C.region ?_
  refine R.ev rfl (E.move rfl) ?_
  refine R.ev rfl (E.move rfl) ?_
  refine R.ev rfl (E.move rfl) ?_
  refine R.ev rfl (E.move rfl) ?_
  refine R.ev rfl (E.lenSl rfl Tryz.underlying77) ?_
  refine R.ev rfl (E.sliceLHMs rfl rfl rfl rfl Tryz.underlying77 Tryz.sz86 rfl rfl rfl hij hj hc) ?_
  refine R.done ?_
  refine X.keep [(0, _), (1, _), (2, _)] ⟨rfl, rfl, rfl, trivial⟩ ?_
  refine X.next ?_
  refine C.seq ?_
  refine C.seq ?_
  refine C.region ?_
  refine R.ev rfl (E.move rfl) ?_
  refine R.ev rfl (E.move rfl) ?_
  refine R.ev rfl (E.eql rfl rfl) ?_
  refine R.done ?_
  refine X.keep [(0, _), (1, _), (2, _), (16, _)] ⟨rfl, rfl, rfl, rfl, trivial⟩ ?_
  refine X.next ?_
  refine C.cdec rfl (fun h16 => ?_) (fun h16 => ?_)
  · refine C.seq ?_
    refine C.region ?_
    refine R.ev rfl (E.move rfl) ?_
    refine R.ev rfl (E.assign rfl) ?_
    refine R.done ?_
    refine X.keep [(6, _)] ⟨rfl, trivial⟩ ?_
    refine X.next ?_
    refine C.ret ?_
    refine X.thenRet ?_
    refine X.ret1 rfl rfl ?_
    exact ⟨F, by rw [show i = j by omega, List.take_append_drop]; exact hr, hs⟩
  · refine C.skip ?_
    refine X.next ?_
    refine C.seq ?_
    refine C.region ?_
    have hlt : i < j := by omega
    obtain ⟨b, rfl⟩ := had (by intro e; rw [e] at hj; simp at hj; omega)
    refine R.ev rfl (E.move rfl) ?_
    refine R.ev rfl (E.lenSl rfl Tryz.underlying77) ?_
    refine R.ev rfl (E.assign rfl) ?_
    refine R.done ?_
    refine X.keep [(0, _), (1, _), (2, _), (7, _)] ⟨rfl, rfl, rfl, rfl, trivial⟩ ?_
    refine X.next ?_
    refine C.seq ?_
    refine C.drawn (SatS hs) ([], [0, 1, 2, 3, 4, 5, 7]) (by kernel_rfl) ?_
    have hs := hs.drew
    refine D.evP 0 rfl (by kernel_rfl) rfl (np (by kernel_rfl)) (fun _ => E.move rfl) ?_
    refine D.evP 1 rfl (by kernel_rfl) rfl (np (by kernel_rfl)) (fun _ => E.move rfl) ?_
    refine D.evP 2 rfl (by kernel_rfl) rfl (np (by kernel_rfl)) (fun _ => E.sliceH rfl rfl Tryz.underlying77 Tryz.sz86 rfl (by omega)) ?_
    refine D.evP 3 rfl (by kernel_rfl) rfl (np (by kernel_rfl)) (fun _ => E.move rfl) ?_
    refine D.evP 4 rfl (by kernel_rfl) rfl (np (by kernel_rfl)) (fun _ => E.move rfl) ?_
    refine D.evP 5 rfl (by kernel_rfl) rfl (np (by kernel_rfl)) (fun _ => E.sliceLs rfl rfl Tryz.underlying77 Tryz.sz86 rfl (by omega)) ?_
    refine D.act 6 rfl (by kernel_rfl) ?_
    have hsl := Rd.sl (inferInstance : Rd encE 34 K (F :: Rs) (.slice (some ⟨b, 0, none⟩) L.length cap) L) _ hs
    refine R.sappIn hs hr rfl rfl Tryz.underlying77 Tryz.by86 rfl (hsl.tail hc hj) (fun y _ => Enc.one y) hij hj ?_
    intro w5 F5 r5 hs
    refine D.backT (by kernel_rfl) ?_
    refine D.evP 7 rfl (by kernel_rfl) rfl (np (by kernel_rfl)) (fun _ => E.assign rfl) ?_
    refine D.done rfl (by kernel_rfl) ?_
    refine X.keep [(0, _), (7, _)] ⟨rfl, rfl, trivial⟩ ?_
    refine X.next ?_
    refine C.seq ?_
    refine C.region ?_
    refine R.ev rfl (E.move rfl) ?_
    refine R.ev rfl (E.move rfl) ?_
    refine R.ev rfl (E.lenSl rfl Tryz.underlying77) ?_
    refine R.ev rfl (E.move rfl) ?_
    refine R.ev rfl ((E.sliceLHs rfl rfl rfl Tryz.underlying77 Tryz.sz86 rfl rfl (by omega) hc).as (u := .slice (some (if cap = i + (L.length - j) then ⟨b, 0, none⟩ else (⟨b, 0, none⟩ : Addr).add ((i + (L.length - j)) * 34))) (L.length - (i + (L.length - j))) (cap - (i + (L.length - j)))) (by simp only [subAd]; split <;> rfl)) ?_
    refine R.sclear (q := (i + (L.length - j)) * 34) hs r5 rfl Tryz.underlying77 Tryz.zr86 (by rfl) (by rfl) ?_ ?_ ?_ (by decide) ?_
    · intro _
      rw [if_neg (by omega), add_at]
      simp
    · simp; omega
    · omega
    intro w6 F6 r6 hs
    refine R.done ?_
    refine X.keep [(0, _)] ⟨rfl, trivial⟩ ?_
    refine X.next ?_
    refine C.seq ?_
    refine C.region ?_
    refine R.ev rfl (E.move rfl) ?_
    refine R.ev rfl (E.assign rfl) ?_
    refine R.done ?_
    refine X.keep [(6, _)] ⟨rfl, trivial⟩ ?_
    refine X.next ?_
    refine C.ret ?_
    refine X.ret1 rfl rfl ?_
    exact ⟨F6, r6, hs⟩

abbrev OMap := List (Vec 32 × Bool)
/-- a backlog -/
structure Bk where
  cap : Int
  wait : Int
  inc : Bool
  L : List Ent
  M : OMap
class BkL (p : Nat) (s : outParam Bk) (F : outParam Hl) : Prop where
  ex : ∃ v m G H, F = row p 79 [.int .i64 s.cap, .int .i64 s.wait, .bool s.inc, v, m] ++ (G ++ H) ∧ RowL 86 encE 34 v s.L G ∧ MapL ekI Value.bool m s.M H
class BkIn (p : Nat) (s : outParam Bk) (Hs : List Hl) : Prop where
  ex : ∃ v m G H, InH p (.cells [.int .i64 s.cap, .int .i64 s.wait, .bool s.inc, v, m].toArray 79 (0, 0)) Hs ∧ RowL 86 encE 34 v s.L G ∧ FIn G Hs ∧ MapL ekI Value.bool m s.M H ∧ FIn H Hs
instance {p : Nat} {s : Bk} {A : Hl} {Hs : List Hl} [h : BkIn p s Hs] : BkIn p s (A :: Hs) := ⟨by
  obtain ⟨v, m, G, H, h1, h2, h3, h4, h5⟩ := h.ex
  exact ⟨v, m, G, H, inferInstance, h2, inferInstance, h4, inferInstance⟩⟩
instance {p : Nat} {s : Bk} {F : Hl} {Hs : List Hl} [h : BkL p s F] [k : FIn F Hs] : BkIn p s Hs := ⟨by
  obtain ⟨v, m, G, H, rfl, h1, h2⟩ := h.ex
  exact ⟨v, m, G, H, k.app.1.row, h1, k.app.2.app.1, h2, k.app.2.app.2⟩⟩
theorem BkIn.parts {p : Nat} {s : Bk} {v m : Value} {G H : Hl} {Hs : List Hl} [h : InH p (.cells [.int .i64 s.cap, .int .i64 s.wait, .bool s.inc, v, m].toArray 79 (0, 0)) Hs] [r : RowL 86 encE 34 v s.L G] [k : FIn G Hs] [r2 : MapL ekI Value.bool m s.M H] [k2 : FIn H Hs] : BkIn p s Hs := ⟨⟨v, m, G, H, h, r, k, r2, k2⟩⟩
theorem BkL.mk' {p : Nat} {c wt : Int} {i : Bool} {v m : Value} {L : List Ent} {M : OMap} {G H : Hl} (h : RowL 86 encE 34 v L G) (k : MapL ekI Value.bool m M H) : BkL p ⟨c, wt, i, L, M⟩ (row p 79 [.int .i64 c, .int .i64 wt, .bool i, v, m] ++ (G ++ H)) := ⟨v, m, G, H, rfl, h, k⟩

variable {K : Kn} {Hs Rs : List Hl} {F : Hl} {w : World} {p : Nat} {s : Bk}
def isCap (n : Int) : Bool := decide (1 ≤ n) && decide (n ≤ 4096)
def isWt (n : Int) : Bool := decide (0 ≤ n) && decide (n ≤ 100000)
def isMin (n : Int) : Bool := decide (0 ≤ n) && decide (n ≤ 105190559)
theorem isCapacity_any (n : Int) (w : World) : Ret Tryz.prog 27 #[.int .i64 n] w fun v w' => v = .bool (isCap n) ∧ w = w' := by
  refine Ret.enter (n := 9) (args := [.int .i64 n]) Tryz.func27 rfl rfl ?_
  refine C.keep [(0, _)] ⟨rfl, trivial⟩ ?_
  refine C.seq ?_
  refine C.region ?_
  refine R.ev rfl (E.assign rfl) ?_
  refine R.done ?_
  refine X.keep [(0, _)] ⟨rfl, trivial⟩ ?_
  refine X.next ?_
  refine C.seq ?_
  refine C.region ?_
  refine R.ev rfl (E.move rfl) ?_
  refine R.ev rfl (E.geq rfl rfl) ?_
  refine R.ev rfl (E.move rfl) ?_
  refine R.split 5 rfl (fun h5 => ?_) (fun h5 => ?_)
  · refine R.gyes rfl rfl ?_
    refine R.ev rfl (E.move rfl) ?_
    refine R.gyes rfl rfl ?_
    refine R.ev rfl (E.leq rfl rfl) ?_
    refine R.ev rfl (E.pickT rfl rfl) ?_
    refine R.ev rfl (E.assign rfl) ?_
    refine R.done ?_
    refine X.keep [(2, _)] ⟨rfl, trivial⟩ ?_
    refine X.next ?_
    refine C.ret ?_
    refine X.ret1 rfl rfl ?_
    exact ⟨by first | (simp_all [isCap]; done) | (simp_all [isCap]; omega), rfl⟩
  · refine R.gskip rfl rfl rfl ?_
    refine R.gskip rfl rfl rfl ?_
    refine R.ev rfl (E.pickF rfl rfl) ?_
    refine R.ev rfl (E.assign rfl) ?_
    refine R.done ?_
    refine X.keep [(2, _)] ⟨rfl, trivial⟩ ?_
    refine X.next ?_
    refine C.ret ?_
    refine X.ret1 rfl rfl ?_
    exact ⟨by first | (simp_all [isCap]; done) | (simp_all [isCap]; omega), rfl⟩
theorem isWait_any (n : Int) (w : World) : Ret Tryz.prog 28 #[.int .i64 n] w fun v w' => v = .bool (isWt n) ∧ w = w' := by
  refine Ret.enter (n := 9) (args := [.int .i64 n]) Tryz.func28 rfl rfl ?_
  refine C.keep [(0, _)] ⟨rfl, trivial⟩ ?_
  refine C.seq ?_
  refine C.region ?_
  refine R.ev rfl (E.assign rfl) ?_
  refine R.done ?_
  refine X.keep [(0, _)] ⟨rfl, trivial⟩ ?_
  refine X.next ?_
  refine C.seq ?_
  refine C.region ?_
  refine R.ev rfl (E.move rfl) ?_
  refine R.ev rfl (E.geq rfl rfl) ?_
  refine R.ev rfl (E.move rfl) ?_
  refine R.split 5 rfl (fun h5 => ?_) (fun h5 => ?_)
  · refine R.gyes rfl rfl ?_
    refine R.ev rfl (E.move rfl) ?_
    refine R.gyes rfl rfl ?_
    refine R.ev rfl (E.leq rfl rfl) ?_
    refine R.ev rfl (E.pickT rfl rfl) ?_
    refine R.ev rfl (E.assign rfl) ?_
    refine R.done ?_
    refine X.keep [(2, _)] ⟨rfl, trivial⟩ ?_
    refine X.next ?_
    refine C.ret ?_
    refine X.ret1 rfl rfl ?_
    exact ⟨by first | (simp_all [isWt]; done) | (simp_all [isWt]; omega), rfl⟩
  · refine R.gskip rfl rfl rfl ?_
    refine R.gskip rfl rfl rfl ?_
    refine R.ev rfl (E.pickF rfl rfl) ?_
    refine R.ev rfl (E.assign rfl) ?_
    refine R.done ?_
    refine X.keep [(2, _)] ⟨rfl, trivial⟩ ?_
    refine X.next ?_
    refine C.ret ?_
    refine X.ret1 rfl rfl ?_
    exact ⟨by first | (simp_all [isWt]; done) | (simp_all [isWt]; omega), rfl⟩
theorem isMinute_any (n : Int) (w : World) : Ret Tryz.prog 30 #[.int .i64 n] w fun v w' => v = .bool (isMin n) ∧ w = w' := by
  refine Ret.enter (n := 9) (args := [.int .i64 n]) Tryz.func30 rfl rfl ?_
  refine C.keep [(0, _)] ⟨rfl, trivial⟩ ?_
  refine C.seq ?_
  refine C.region ?_
  refine R.ev rfl (E.assign rfl) ?_
  refine R.done ?_
  refine X.keep [(0, _)] ⟨rfl, trivial⟩ ?_
  refine X.next ?_
  refine C.seq ?_
  refine C.region ?_
  refine R.ev rfl (E.move rfl) ?_
  refine R.ev rfl (E.geq rfl rfl) ?_
  refine R.ev rfl (E.move rfl) ?_
  refine R.split 5 rfl (fun h5 => ?_) (fun h5 => ?_)
  · refine R.gyes rfl rfl ?_
    refine R.ev rfl (E.move rfl) ?_
    refine R.gyes rfl rfl ?_
    refine R.ev rfl (E.leq rfl rfl) ?_
    refine R.ev rfl (E.pickT rfl rfl) ?_
    refine R.ev rfl (E.assign rfl) ?_
    refine R.done ?_
    refine X.keep [(2, _)] ⟨rfl, trivial⟩ ?_
    refine X.next ?_
    refine C.ret ?_
    refine X.ret1 rfl rfl ?_
    exact ⟨by first | (simp_all [isMin]; done) | (simp_all [isMin]; omega), rfl⟩
  · refine R.gskip rfl rfl rfl ?_
    refine R.gskip rfl rfl rfl ?_
    refine R.ev rfl (E.pickF rfl rfl) ?_
    refine R.ev rfl (E.assign rfl) ?_
    refine R.done ?_
    refine X.keep [(2, _)] ⟨rfl, trivial⟩ ?_
    refine X.next ?_
    refine C.ret ?_
    refine X.ret1 rfl rfl ?_
    exact ⟨by first | (simp_all [isMin]; done) | (simp_all [isMin]; omega), rfl⟩
def newOk (c wt : Int) : Bool := isCap c && isWt wt
theorem new_any (c wt : Int) (hs : Sat K w Hs) : Ret Tryz.prog 6 #[.int .i64 c, .int .i64 wt] w fun v w' =>
    (newOk c wt = false ∧ v = .tuple #[.pointer none, .int .i64 2] ∧ Sat K w' Hs) ∨ (newOk c wt = true ∧ ∃ p F, v = .tuple #[ptr p, .int .i64 0] ∧ BkL p ⟨c, wt, false, [], []⟩ F ∧ Sat K w' (F :: Hs)) := by
  refine Ret.enter (n := 19) (args := [.int .i64 c, .int .i64 wt]) Tryz.func6 rfl rfl ?_
  refine C.keep [(0, _), (1, _)] ⟨rfl, rfl, trivial⟩ ?_
  refine C.seq ?_
  refine C.region ?_
  refine R.ev rfl (E.assign rfl) ?_
  refine R.ev rfl (E.assign rfl) ?_
  refine R.done ?_
  refine X.keep [(0, _), (1, _)] ⟨rfl, rfl, trivial⟩ ?_
  refine X.next ?_
  refine C.seq ?_
  refine C.seq ?_
  refine C.region ?_
  refine R.ev rfl (E.move rfl) ?_
  refine R.call ⟨_, _, Tryz.func27, rfl, by kernel_rfl⟩ rfl rfl (isCapacity_any c _) ?_
  rintro _ _ ⟨rfl, rfl⟩
  refine R.ev rfl ((E.not rfl).isB (c := !(isCap c)) rfl) ?_
  refine R.ev rfl (E.move rfl) ?_
  refine R.split 9 rfl (fun h9 => ?_) (fun h9 => ?_)
  · refine R.gskip rfl rfl rfl ?_
    refine R.gskip rfl rfl rfl ?_
    refine R.gskip rfl rfl rfl ?_
    refine R.ev rfl (E.pickT rfl rfl) ?_
    refine R.done ?_
    refine X.keep [(0, _), (1, _), (13, _)] ⟨rfl, rfl, rfl, trivial⟩ ?_
    refine X.next ?_
    refine C.ctrue rfl ?_
    refine C.seq ?_
    refine C.region ?_
    refine R.ev rfl (E.assign rfl) ?_
    refine R.ev rfl (E.assign rfl) ?_
    refine R.done ?_
    refine X.keep [(4, _), (5, _)] ⟨rfl, rfl, trivial⟩ ?_
    refine X.next ?_
    refine C.ret ?_
    refine X.thenRet ?_
    refine X.ret2 rfl rfl rfl ?_
    exact .inl ⟨by simp_all [newOk], rfl, hs⟩
  · refine R.gyes rfl rfl ?_
    refine R.ev rfl (E.move rfl) ?_
    refine R.gyes rfl rfl ?_
    refine R.call ⟨_, _, Tryz.func28, rfl, by kernel_rfl⟩ rfl rfl (isWait_any wt _) ?_
    rintro _ _ ⟨rfl, rfl⟩
    refine R.gyes rfl rfl ?_
    refine R.ev rfl ((E.not rfl).isB (c := !(isWt wt)) rfl) ?_
    refine R.ev rfl (E.pickF rfl rfl) ?_
    refine R.done ?_
    refine X.keep [(0, _), (1, _), (13, _)] ⟨rfl, rfl, rfl, trivial⟩ ?_
    refine X.next ?_
    refine C.cbool rfl (fun h13 => ?_) (fun h13 => ?_)
    · refine C.seq ?_
      refine C.region ?_
      refine R.ev rfl (E.assign rfl) ?_
      refine R.ev rfl (E.assign rfl) ?_
      refine R.done ?_
      refine X.keep [(4, _), (5, _)] ⟨rfl, rfl, trivial⟩ ?_
      refine X.next ?_
      refine C.ret ?_
      refine X.thenRet ?_
      refine X.ret2 rfl rfl rfl ?_
      exact .inl ⟨by simp_all [newOk], rfl, hs⟩
    · refine C.skip ?_
      refine X.next ?_
      refine C.seq ?_
      refine C.region ?_
      refine R.ev rfl (E.move rfl) ?_
      refine R.ev rfl (E.move rfl) ?_
      refine R.cmake hs Tryz.underlying39 (Value.bool) rfl ?_
      intro v16 w16 F16 m16 hs
      refine R.ev rfl (E.buildG (r := [.int .i64 c, .int .i64 wt, .bool false, .slice none 0 0, v16]) rfl Tryz.underlying79 Tryz.zr79 Tryz.ql79 (by kernel_rfl) (by kernel_rfl) ⟨⟨_, rfl, rfl⟩, ⟨_, rfl, rfl⟩, ⟨_, rfl, by obtain ⟨b', _, _, rfl, _⟩ := m16.ex; rfl⟩, trivial⟩ (by obtain ⟨b', _, _, rfl, _⟩ := m16.ex; rfl)) ?_
      refine R.sboxA hs rfl rfl ?_
      intro b18 w18 hs
      refine R.ev rfl (E.assign rfl) ?_
      refine R.ev rfl (E.assign rfl) ?_
      refine R.done ?_
      refine X.keep [(4, _), (5, _)] ⟨rfl, rfl, trivial⟩ ?_
      refine X.next ?_
      refine C.ret ?_
      refine X.ret2 rfl rfl rfl ?_
      exact .inr ⟨by simp_all [newOk], b18, _, rfl, BkL.mk' (RowL.nil _ _ _) m16, by rw [List.nil_append]; exact hs.to⟩
theorem len_any (hs : Sat K w Hs) [hw : BkIn p s Hs] : Ret Tryz.prog 21 #[ptr p] w fun r w' => r = .int .i64 s.L.length ∧ Sat K w' Hs := by
  obtain ⟨v, m, G, H, _, hr, _, hm, _⟩ := hw.ex
  obtain ⟨ad, cap, rfl, hc, hcm, had⟩ := hr.val
  refine Ret.enter (n := 10) (args := [ptr p]) Tryz.func21 rfl rfl ?_
  refine C.keep [(0, _)] ⟨rfl, trivial⟩ ?_
  refine C.seq ?_
  refine C.region ?_
  refine R.ev rfl (E.assign rfl) ?_
  refine R.done ?_
  refine X.keep [(0, _)] ⟨rfl, trivial⟩ ?_
  refine X.next ?_
  refine C.seq ?_
  refine C.seq ?_
  refine C.region ?_
  refine R.ev rfl (E.move rfl) ?_
  refine R.ev rfl (E.eqlNilF rfl rfl Tryz.underlying33) ?_
  refine R.done ?_
  refine X.keep [(0, _), (4, _)] ⟨rfl, rfl, trivial⟩ ?_
  refine X.next ?_
  refine C.cfalse rfl ?_
  refine C.skip ?_
  refine X.next ?_
  refine C.seq ?_
  refine C.region ?_
  refine R.ev rfl (E.move rfl) ?_
  refine R.ev rfl (E.nilCheck rfl) ?_
  first | refine R.ev rfl (E.fieldAddr0 3 rfl Tryz.underlying79 rfl Tryz.sz77 rfl) ?_ | refine R.ev rfl (E.fieldAddrN 3 rfl Tryz.underlying79 rfl Tryz.sz77 rfl) ?_
  refine R.ev rfl (E.load1 rfl Tryz.underlying77 rfl (by first | exact hs.ldc | exact hs.ld rfl | exact hs.ld (by assumption) | exact by assumption | exact At.cellC (by assumption) | exact hs.ldK rfl)) ?_
  refine R.ev rfl (E.lenSl rfl Tryz.underlying77) ?_
  refine R.ev rfl (E.assign rfl) ?_
  refine R.done ?_
  refine X.keep [(2, _)] ⟨rfl, trivial⟩ ?_
  refine X.next ?_
  refine C.ret ?_
  refine X.ret1 rfl rfl ?_
  exact ⟨rfl, hs⟩
theorem missed_any (hs : Sat K w Hs) [hw : BkIn p s Hs] : Ret Tryz.prog 12 #[ptr p] w fun r w' => r = .bool s.inc ∧ Sat K w' Hs := by
  obtain ⟨v, m, G, H, _, hr, _, hm, _⟩ := hw.ex
  refine Ret.enter (n := 11) (args := [ptr p]) Tryz.func12 rfl rfl ?_
  refine C.keep [(0, _)] ⟨rfl, trivial⟩ ?_
  refine C.seq ?_
  refine C.region ?_
  refine R.ev rfl (E.assign rfl) ?_
  refine R.done ?_
  refine X.keep [(0, _)] ⟨rfl, trivial⟩ ?_
  refine X.next ?_
  refine C.seq ?_
  refine C.region ?_
  refine R.ev rfl (E.move rfl) ?_
  refine R.ev rfl (E.neNilT rfl rfl Tryz.underlying33) ?_
  refine R.ev rfl (E.move rfl) ?_
  refine R.gyes rfl rfl ?_
  refine R.ev rfl (E.move rfl) ?_
  refine R.gyes rfl rfl ?_
  refine R.ev rfl (E.nilCheck rfl) ?_
  refine R.gyes rfl rfl ?_
  first | refine R.ev rfl (E.fieldAddr0 2 rfl Tryz.underlying79 rfl Tryz.sz4 rfl) ?_ | refine R.ev rfl (E.fieldAddrN 2 rfl Tryz.underlying79 rfl Tryz.sz4 rfl) ?_
  refine R.gyes rfl rfl ?_
  refine R.ev rfl (E.load1 rfl Tryz.underlying4 rfl (by first | exact hs.ldc | exact hs.ld rfl | exact hs.ld (by assumption) | exact by assumption | exact At.cellC (by assumption) | exact hs.ldK rfl)) ?_
  refine R.ev rfl (E.pickT rfl rfl) ?_
  refine R.ev rfl (E.assign rfl) ?_
  refine R.done ?_
  refine X.keep [(2, _)] ⟨rfl, trivial⟩ ?_
  refine X.next ?_
  refine C.ret ?_
  refine X.ret1 rfl rfl ?_
  exact ⟨rfl, hs⟩
theorem find1_any (o : Ent) (a : Vec 32) (b : Nat) (t : TypeId) (hs : Sat K w Hs) [InH b (.cells (a.1.map ub).toArray t (0, 0)) Hs] : Ret Tryz.prog 62 #[.agg (encE o).toArray, ptr b] w fun v w' => v = .bool (decide (o.id = a)) ∧ Sat K w' Hs := by
  have e1 := encV_len a
  refine Ret.enter (n := 8) (args := [.agg (encE o).toArray, ptr b]) Tryz.func62 rfl rfl ?_
  refine C.keep [(0, _), (1, _)] ⟨rfl, rfl, trivial⟩ ?_
  refine C.seq ?_
  refine C.region ?_
  refine R.sboxA hs rfl rfl ?_
  intro b2 w2 hs
  refine R.ev rfl (E.assign rfl) ?_
  refine R.done ?_
  refine X.keep [(1, _), (2, _)] ⟨rfl, rfl, trivial⟩ ?_
  refine X.next ?_
  refine C.seq ?_
  refine C.region ?_
  first | refine R.ev rfl (E.fieldAddr0 0 rfl Tryz.underlying86 rfl Tryz.sz45 rfl) ?_ | refine R.ev rfl (E.fieldAddrN 0 rfl Tryz.underlying86 rfl Tryz.sz45 rfl) ?_
  refine R.ev rfl (E.loadRowC rfl Tryz.underlying45 rfl Tryz.sz45 (by first | exact ⟨hs.ldA, by first | rfl | assumption | exact encV_len _ | exact Enc.len _ | exact len_ub (by assumption)⟩ | exact ⟨hs.ldP rfl, by first | rfl | assumption | exact encV_len _ | exact Enc.len _ | exact len_ub (by assumption)⟩ | exact ⟨hs.ldM rfl rfl, by first | rfl | assumption | exact encV_len _ | exact Enc.len _ | exact len_ub (by assumption)⟩ | exact ⟨hs.ldM (by assumption) (by first | rfl | assumption), by first | rfl | assumption | exact encV_len _ | exact Enc.len _ | exact len_ub (by assumption)⟩ | exact ⟨by assumption, by first | rfl | assumption | exact encV_len _ | exact Enc.len _ | exact len_ub (by assumption)⟩ | exact hs.ldp | exact At.partC (by assumption))) ?_
  refine R.ev rfl (E.loadRowC rfl Tryz.underlying45 rfl Tryz.sz45 (by first | exact ⟨hs.ldA, by first | rfl | assumption | exact encV_len _ | exact Enc.len _ | exact len_ub (by assumption)⟩ | exact ⟨hs.ldP rfl, by first | rfl | assumption | exact encV_len _ | exact Enc.len _ | exact len_ub (by assumption)⟩ | exact ⟨hs.ldM rfl rfl, by first | rfl | assumption | exact encV_len _ | exact Enc.len _ | exact len_ub (by assumption)⟩ | exact ⟨hs.ldM (by assumption) (by first | rfl | assumption), by first | rfl | assumption | exact encV_len _ | exact Enc.len _ | exact len_ub (by assumption)⟩ | exact ⟨by assumption, by first | rfl | assumption | exact encV_len _ | exact Enc.len _ | exact len_ub (by assumption)⟩ | exact hs.ldp | exact At.partC (by assumption))) ?_
  first | refine R.ev rfl (E.eqV 10 rfl rfl Tryz.lv45 rfl Tryz.underlying45 rfl Tryz.gd45) ?_ | refine R.ev rfl (E.eqId 10 32 rfl rfl Tryz.lv45 rfl Tryz.underlying45 rfl Tryz.gd45 (by assumption) (by assumption)) ?_
  refine R.ev rfl (E.assign rfl) ?_
  refine R.done ?_
  refine X.keep [(3, _)] ⟨rfl, trivial⟩ ?_
  refine X.next ?_
  refine C.ret ?_
  refine X.ret1 rfl rfl ?_
  exact ⟨rfl, hs.to⟩
abbrev isId (a : Vec 32) : Ent → Bool := fun o => decide (o.id = a)
theorem find_any (a : Vec 32) (hs : Sat K w Hs) [hw : BkIn p s Hs] : Ret Tryz.prog 44 #[ptr p, idV a.1] w fun r w' => r = .int .i64 (idxP (isId a) s.L) ∧ Sat K w' Hs := by
  obtain ⟨v, m, G, H, _, hr, _, hm, _⟩ := hw.ex
  obtain ⟨ad, cap, rfl, hc, hcm, had⟩ := hr.val
  refine Ret.enter (n := 11) (args := [ptr p, idV a.1]) Tryz.func44 rfl rfl ?_
  refine C.keep [(0, _), (1, _)] ⟨rfl, rfl, trivial⟩ ?_
  refine C.seq ?_
  refine C.region ?_
  refine R.sboxA hs rfl rfl ?_
  intro b3 w3 hs
  refine R.ev rfl (E.assign rfl) ?_
  refine R.done ?_
  refine X.keep [(0, _), (3, _)] ⟨rfl, rfl, trivial⟩ ?_
  refine X.next ?_
  refine C.seq ?_
  refine C.region ?_
  refine R.ev rfl (E.move rfl) ?_
  refine R.ev rfl (E.nilCheck rfl) ?_
  first | refine R.ev rfl (E.fieldAddr0 3 rfl Tryz.underlying79 rfl Tryz.sz77 rfl) ?_ | refine R.ev rfl (E.fieldAddrN 3 rfl Tryz.underlying79 rfl Tryz.sz77 rfl) ?_
  refine R.ev rfl (E.load1 rfl Tryz.underlying77 rfl (by first | exact hs.ldc | exact hs.ld rfl | exact hs.ld (by assumption) | exact by assumption | exact At.cellC (by assumption) | exact hs.ldK rfl)) ?_
  refine R.ev rfl (E.makeFunc rfl rfl) ?_
  refine R.call ⟨_, _, Tryz.func61, rfl, by kernel_rfl⟩ rfl rfl (idxE_any (p := isId a) (first := []) (cap := [ptr b3]) ⟨_, _, Tryz.func62, rfl, by kernel_rfl⟩ hs (by unfold maxLen at hcm; omega) (fun y _ w' hs' => find1_any y a b3 _ hs')) ?_
  rintro _ w1 ⟨rfl, hs⟩
  refine R.ev rfl (E.assign rfl) ?_
  refine R.done ?_
  refine X.keep [(4, _)] ⟨rfl, trivial⟩ ?_
  refine X.next ?_
  refine C.ret ?_
  refine X.ret1 rfl rfl ?_
  exact ⟨rfl, hs.to⟩
def has (a : Vec 32) (L : List Ent) : Bool := L.any (isId a)
theorem idx_ge {a : Vec 32} {L : List Ent} : decide (0 ≤ idxP (isId a) L) = has a L := by
  rw [Bool.eq_iff_iff, decide_eq_true_eq, idxP_nonneg_iff, has, List.any_eq_true]
theorem has_any (a : Vec 32) (hs : Sat K w Hs) [hw : BkIn p s Hs] : Ret Tryz.prog 31 #[ptr p, idV a.1] w fun r w' => r = .bool (has a s.L) ∧ Sat K w' Hs := by
  have e1 := encV_len a
  refine Ret.enter (n := 13) (args := [ptr p, idV a.1]) Tryz.func31 rfl rfl ?_
  refine C.keep [(0, _), (1, _)] ⟨rfl, rfl, trivial⟩ ?_
  refine C.seq ?_
  refine C.region ?_
  refine R.sboxA hs rfl rfl ?_
  intro b3 w3 hs
  refine R.ev rfl (E.assign rfl) ?_
  refine R.done ?_
  refine X.keep [(0, _), (3, _)] ⟨rfl, rfl, trivial⟩ ?_
  refine X.next ?_
  refine C.seq ?_
  refine C.region ?_
  refine R.ev rfl (E.move rfl) ?_
  refine R.ev rfl (E.neNilT rfl rfl Tryz.underlying33) ?_
  refine R.ev rfl (E.move rfl) ?_
  refine R.gyes rfl rfl ?_
  refine R.ev rfl (E.move rfl) ?_
  refine R.gyes rfl rfl ?_
  refine R.ev rfl (E.loadRowC rfl Tryz.underlying45 rfl Tryz.sz45 (by first | exact ⟨hs.ldA, by first | rfl | assumption | exact encV_len _ | exact Enc.len _ | exact len_ub (by assumption)⟩ | exact ⟨hs.ldP rfl, by first | rfl | assumption | exact encV_len _ | exact Enc.len _ | exact len_ub (by assumption)⟩ | exact ⟨hs.ldM rfl rfl, by first | rfl | assumption | exact encV_len _ | exact Enc.len _ | exact len_ub (by assumption)⟩ | exact ⟨hs.ldM (by assumption) (by first | rfl | assumption), by first | rfl | assumption | exact encV_len _ | exact Enc.len _ | exact len_ub (by assumption)⟩ | exact ⟨by assumption, by first | rfl | assumption | exact encV_len _ | exact Enc.len _ | exact len_ub (by assumption)⟩ | exact hs.ldp | exact At.partC (by assumption))) ?_
  refine R.gyes rfl rfl ?_
  refine R.call ⟨_, _, Tryz.func44, rfl, by kernel_rfl⟩ rfl rfl (find_any a hs) ?_
  rintro _ w1 ⟨rfl, hs⟩
  refine R.gyes rfl rfl ?_
  refine R.ev rfl ((E.geq rfl rfl).isB (c := has a s.L) idx_ge) ?_
  refine R.ev rfl (E.pickT rfl rfl) ?_
  refine R.ev rfl (E.assign rfl) ?_
  refine R.done ?_
  refine X.keep [(4, _)] ⟨rfl, trivial⟩ ?_
  refine X.next ?_
  refine C.ret ?_
  refine X.ret1 rfl rfl ?_
  exact ⟨rfl, hs.to⟩
theorem full_any (hs : Sat K w Hs) [hw : BkIn p s Hs] : Ret Tryz.prog 32 #[ptr p] w fun r w' => r = .bool (decide (s.cap ≤ s.L.length)) ∧ Sat K w' Hs := by
  obtain ⟨v, m, G, H, _, hr, _, hm, _⟩ := hw.ex
  obtain ⟨ad, cap, rfl, hc, hcm, had⟩ := hr.val
  refine Ret.enter (n := 13) (args := [ptr p]) Tryz.func32 rfl rfl ?_
  refine C.keep [(0, _)] ⟨rfl, trivial⟩ ?_
  refine C.seq ?_
  refine C.region ?_
  refine R.ev rfl (E.assign rfl) ?_
  refine R.done ?_
  refine X.keep [(0, _)] ⟨rfl, trivial⟩ ?_
  refine X.next ?_
  refine C.seq ?_
  refine C.drawn (SatS hs) ([3, 8], [0, 1, 2, 4, 5, 6, 7, 9, 10]) (by kernel_rfl) ?_
  have hs := hs.drew
  refine D.evP 0 rfl (by kernel_rfl) rfl (fun _ => hs.to) (fun _ => E.move rfl) ?_
  refine D.evP 1 rfl (by kernel_rfl) rfl (fun _ => hs.to) (fun _ => E.nilCheck rfl) ?_
  first | refine D.evP 2 rfl (by kernel_rfl) rfl (fun _ => hs.to) (fun _ => E.fieldAddr0 3 rfl Tryz.underlying79 rfl Tryz.sz77 rfl) ?_ | refine D.evP 2 rfl (by kernel_rfl) rfl (fun _ => hs.to) (fun _ => E.fieldAddrN 3 rfl Tryz.underlying79 rfl Tryz.sz77 rfl) ?_
  refine D.evP 5 rfl (by kernel_rfl) rfl (fun _ => hs.to) (fun _ => E.move rfl) ?_
  refine D.evP 6 rfl (by kernel_rfl) rfl (fun _ => hs.to) (fun _ => E.nilCheck rfl) ?_
  first | refine D.evP 7 rfl (by kernel_rfl) rfl (fun _ => hs.to) (fun _ => E.fieldAddr0 0 rfl Tryz.underlying79 rfl Tryz.sz3 rfl) ?_ | refine D.evP 7 rfl (by kernel_rfl) rfl (fun _ => hs.to) (fun _ => E.fieldAddrN 0 rfl Tryz.underlying79 rfl Tryz.sz3 rfl) ?_
  refine D.ev 3 rfl (by kernel_rfl) rfl hs.to (fun _ hS => E.load1 rfl Tryz.underlying77 rfl (by first | exact hS.ldc | exact hS.ld rfl | exact hS.ld (by assumption) | exact by assumption | exact At.cellC (by assumption) | exact hS.ldK rfl | exact At.cellC ((by assumption : ∀ w', Sat _ w' _ → At w' _ _ _) _ hS) | exact (by assumption : ∀ w', Sat _ w' _ → World.cell? w' _ = some _) _ hS)) ?_
  refine D.evP 4 rfl (by kernel_rfl) rfl (fun _ => hs.to) (fun _ => E.lenSl rfl Tryz.underlying77) ?_
  refine D.ev 8 rfl (by kernel_rfl) rfl hs.to (fun _ hS => E.load1 rfl Tryz.underlying3 rfl (by first | exact hS.ldc | exact hS.ld rfl | exact hS.ld (by assumption) | exact by assumption | exact At.cellC (by assumption) | exact hS.ldK rfl | exact At.cellC ((by assumption : ∀ w', Sat _ w' _ → At w' _ _ _) _ hS) | exact (by assumption : ∀ w', Sat _ w' _ → World.cell? w' _ = some _) _ hS)) ?_
  refine D.evP 9 rfl (by kernel_rfl) rfl (fun _ => hs.to) (fun _ => E.geq rfl rfl) ?_
  refine D.evP 10 rfl (by kernel_rfl) rfl (fun _ => hs.to) (fun _ => E.assign rfl) ?_
  refine D.done rfl (by kernel_rfl) ?_
  refine X.keep [(2, _)] ⟨rfl, trivial⟩ ?_
  refine X.next ?_
  refine C.ret ?_
  refine X.ret1 rfl rfl ?_
  exact ⟨rfl, hs⟩
end Go.Proofs.YtifghjeapfijkaaGreatDoor
