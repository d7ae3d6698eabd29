/-
  package wildmat: elements of patterns, which names a pattern matches.
-/
import Derived.Test.YtifghjeapfijkaaGreatDoorEngIf
import Derived.Test.YtifghjeapfijkaaGreatDoorStr
import Derived.Test.YtifghjeapfijkaaGreatDoorPtr
namespace Go.Proofs.YtifghjeapfijkaaGreatDoor
open Go.Eng Go.RowKit

/-- an element: a character, or a star -/
abbrev El := Option UInt8
@[reducible] def elV : El → Value
  | some c => .iface 126 (str [c])
  | none => .iface 121 (.agg #[])
def encEl (e : El) : List Value := [elV e]
theorem elV_one (e : El) : (elV e).oneCell' = true := by cases e <;> rfl
instance {e : El} : OneC (elV e) := ⟨elV_one e⟩
instance : Enc encEl 1 := ⟨fun _ => rfl, fun o u hu => by simp [encEl] at hu; subst hu; exact elV_one o⟩
instance {o : El} : CellOf (encEl o) 0 (elV o) := ⟨rfl⟩
def encBo (b : Bool) : List Value := [.bool b]
instance : Enc encBo 1 := ⟨fun _ => rfl, fun o u hu => by simp [encBo] at hu; subst hu; rfl⟩
instance {o : Bool} : CellOf (encBo o) 0 (.bool o) := ⟨rfl⟩
def nameC : List UInt8 := [43, 45, 46, 48, 49, 50, 51, 52, 53, 54, 55, 56, 57, 95, 97, 98, 99, 100, 101, 102, 103, 104, 105, 106, 107, 108, 109, 110, 111, 112, 113, 114, 115, 116, 117, 118, 119, 120, 121, 122]
def chrs : El → List UInt8
  | some c => [c]
  | none => nameC
def standB (e : El) (c : UInt8) : Bool := decide (0 ≤ idxL c (chrs e) 0)
variable {K : Kn} {Hs Rs : List Hl} {F : Hl} {w : World} {p : Nat}
theorem litChars_any (l : List UInt8) (w : World) : Ret Tryz.prog 136 #[str l] w fun v w' => v = str l ∧ w = w' := by
  refine Ret.enter (n := 4) (args := [str l]) Tryz.func136 rfl rfl ?_
  refine C.keep [(0, _)] ⟨rfl, trivial⟩ ?_
  refine C.seq ?_
  refine C.region ?_
  refine R.ev rfl (E.assign rfl) ?_
  refine R.done ?_
  refine X.keep [(0, _)] ⟨rfl, trivial⟩ ?_
  refine X.next ?_
  refine C.seq ?_
  refine C.region ?_
  refine R.ev rfl (E.move rfl) ?_
  refine R.ev rfl (E.assign rfl) ?_
  refine R.done ?_
  refine X.keep [(2, _)] ⟨rfl, trivial⟩ ?_
  refine X.next ?_
  refine C.ret ?_
  refine X.ret1 rfl rfl ?_
  exact ⟨rfl, rfl⟩
theorem starChars_any (hs : Sat K w Hs) : Ret Tryz.prog 134 #[.agg #[]] w fun v w' => v = str nameC ∧ Sat K w' Hs := by
  refine Ret.enter (n := 3) (args := [.agg #[]]) Tryz.func134 rfl rfl ?_
  refine C.keep [(0, _)] ⟨rfl, trivial⟩ ?_
  refine C.seq ?_
  refine C.region ?_
  refine R.sboxA hs rfl rfl ?_
  intro b1 w1 hs
  refine R.ev rfl (E.assign rfl) ?_
  refine R.done ?_
  refine X.keep [] trivial ?_
  refine X.next ?_
  refine C.seq ?_
  refine C.region ?_
  refine R.ev rfl (E.assign rfl) ?_
  refine R.done ?_
  refine X.keep [(2, _)] ⟨rfl, trivial⟩ ?_
  refine X.next ?_
  refine C.ret ?_
  refine X.ret1 rfl rfl ?_
  exact ⟨rfl, hs.to⟩
theorem stands_any (e : El) (c : UInt8) (hs : Sat K w Hs) : Ret Tryz.prog 69 #[elV e, ub c] w fun v w' => v = .bool (standB e c) ∧ Sat K w' Hs := by
  cases e with
  | none =>
    refine Ret.enter (n := 10) (args := [elV none, ub c]) Tryz.func69 rfl rfl ?_
    refine C.keep [(0, _), (1, _)] ⟨rfl, rfl, trivial⟩ ?_
    refine C.seq ?_
    refine C.region ?_
    refine R.ev rfl (E.assign rfl) ?_
    refine R.done ?_
    refine X.keep [(0, _), (1, _)] ⟨rfl, rfl, trivial⟩ ?_
    refine X.next ?_
    refine C.seq ?_
    refine C.region ?_
    refine R.ev rfl (E.move rfl) ?_
    refine R.invoke ⟨_, _, Tryz.func134, rfl, by kernel_rfl⟩ rfl (by kernel_rfl) rfl rfl (starChars_any hs) ?_
    rintro _ w1 ⟨rfl, hs⟩
    refine R.ev rfl (E.move rfl) ?_
    refine R.call ⟨_, _, Tryz.func67, rfl, by kernel_rfl⟩ rfl rfl (idxStr_any _ _ _) ?_
    rintro _ _ ⟨rfl, rfl⟩
    refine R.ev rfl (E.geq rfl rfl) ?_
    refine R.ev rfl (E.assign rfl) ?_
    refine R.done ?_
    refine X.keep [(4, _)] ⟨rfl, trivial⟩ ?_
    refine X.next ?_
    refine C.ret ?_
    refine X.ret1 rfl rfl ?_
    exact ⟨rfl, hs⟩
  | some a =>
    refine Ret.enter (n := 10) (args := [elV (some a), ub c]) Tryz.func69 rfl rfl ?_
    refine C.keep [(0, _), (1, _)] ⟨rfl, rfl, trivial⟩ ?_
    refine C.seq ?_
    refine C.region ?_
    refine R.ev rfl (E.assign rfl) ?_
    refine R.done ?_
    refine X.keep [(0, _), (1, _)] ⟨rfl, rfl, trivial⟩ ?_
    refine X.next ?_
    refine C.seq ?_
    refine C.region ?_
    refine R.ev rfl (E.move rfl) ?_
    refine R.invoke ⟨_, _, Tryz.func136, rfl, by kernel_rfl⟩ rfl (by kernel_rfl) rfl rfl (litChars_any [a] _) ?_
    rintro _ _ ⟨rfl, rfl⟩
    refine R.ev rfl (E.move rfl) ?_
    refine R.call ⟨_, _, Tryz.func67, rfl, by kernel_rfl⟩ rfl rfl (idxStr_any _ _ _) ?_
    rintro _ _ ⟨rfl, rfl⟩
    refine R.ev rfl (E.geq rfl rfl) ?_
    refine R.ev rfl (E.assign rfl) ?_
    refine R.done ?_
    refine X.keep [(4, _)] ⟨rfl, trivial⟩ ?_
    refine X.next ?_
    refine C.ret ?_
    refine X.ret1 rfl rfl ?_
    exact ⟨rfl, hs⟩
theorem isStar_any (e : El) (hs : Sat K w Hs) : Ret Tryz.prog 70 #[elV e] w fun v w' => v = .bool e.isNone ∧ Sat K w' Hs := by
  cases e with
  | none =>
    refine Ret.enter (n := 11) (args := [elV none]) Tryz.func70 rfl rfl ?_
    refine C.keep [(0, _)] ⟨rfl, trivial⟩ ?_
    refine C.seq ?_
    refine C.region ?_
    refine R.ev rfl (E.assign rfl) ?_
    refine R.done ?_
    refine X.keep [(0, _)] ⟨rfl, trivial⟩ ?_
    refine X.next ?_
    refine C.seq ?_
    refine C.region ?_
    refine R.ev rfl (E.move rfl) ?_
    refine R.ev rfl (E.assertT rfl Tryz.underlying121 rfl) ?_
    refine R.ev rfl (E.move rfl) ?_
    refine R.ev rfl (E.extract rfl rfl) ?_
    refine R.ev rfl (E.extract rfl rfl) ?_
    refine R.sallocA (zs := []) hs Tryz.zr121 rfl ?_
    intro b3 w3 hs
    refine R.cstoreAll (l := []) (cs := []) hs rfl rfl Tryz.sz121 rfl rfl (by simp) ?_
    intro w6 hs
    refine R.ev rfl (E.assign rfl) ?_
    refine R.done ?_
    refine X.keep [(4, _)] ⟨rfl, trivial⟩ ?_
    refine X.next ?_
    refine C.seq ?_
    refine C.region ?_
    refine R.ev rfl (E.move rfl) ?_
    refine R.ev rfl (E.assign rfl) ?_
    refine R.done ?_
    refine X.keep [(2, _)] ⟨rfl, trivial⟩ ?_
    refine X.next ?_
    refine C.ret ?_
    refine X.ret1 rfl rfl ?_
    exact ⟨rfl, hs.to⟩
  | some a =>
    refine Ret.enter (n := 11) (args := [elV (some a)]) Tryz.func70 rfl rfl ?_
    refine C.keep [(0, _)] ⟨rfl, trivial⟩ ?_
    refine C.seq ?_
    refine C.region ?_
    refine R.ev rfl (E.assign rfl) ?_
    refine R.done ?_
    refine X.keep [(0, _)] ⟨rfl, trivial⟩ ?_
    refine X.next ?_
    refine C.seq ?_
    refine C.region ?_
    refine R.ev rfl (E.move rfl) ?_
    refine R.ev rfl (E.assertF rfl rfl Tryz.underlying121 rfl Tryz.zr121) ?_
    refine R.ev rfl (E.move rfl) ?_
    refine R.ev rfl (E.extract rfl rfl) ?_
    refine R.ev rfl (E.extract rfl rfl) ?_
    refine R.sallocA (zs := []) hs Tryz.zr121 rfl ?_
    intro b3 w3 hs
    refine R.cstoreAll (l := []) (cs := []) hs rfl rfl Tryz.sz121 rfl rfl (by simp) ?_
    intro w6 hs
    refine R.ev rfl (E.assign rfl) ?_
    refine R.done ?_
    refine X.keep [(4, _)] ⟨rfl, trivial⟩ ?_
    refine X.next ?_
    refine C.seq ?_
    refine C.region ?_
    refine R.ev rfl (E.move rfl) ?_
    refine R.ev rfl (E.assign rfl) ?_
    refine R.done ?_
    refine X.keep [(2, _)] ⟨rfl, trivial⟩ ?_
    refine X.next ?_
    refine C.ret ?_
    refine X.ret1 rfl rfl ?_
    exact ⟨rfl, hs.to⟩
/-- a pattern that nobody writes any more -/
class KPat (K : Kn) (p : Nat) (es : outParam (List El)) : Prop where
  ex : ∃ s v, KCel K p [str s, v] ∧ KRow encEl 1 K v es
instance KPat.mono {K K' : Kn} {p : Nat} {es : List El} [k : KLe K K'] [h : KPat K p es] : KPat K' p es := ⟨by
  obtain ⟨s, v, h1, h2⟩ := h.ex
  exact ⟨s, v, inferInstance, inferInstance⟩⟩
def sprK (es : List El) : Nat → List Bool → List Bool
  | 0, m => m
  | k + 1, m => if (sprK es k m).getD k false && (es.getD k (some 0)).isNone then (sprK es k m).set (k + 1) true else sprK es k m
theorem sprK_len (es : List El) (m : List Bool) : ∀ k, (sprK es k m).length = m.length
  | 0 => rfl
  | k + 1 => by
    unfold sprK
    split
    · rw [List.length_set]; exact sprK_len es m k
    · exact sprK_len es m k
theorem getD_of {α : Type} {l : List α} {i : Nat} {y z : α} (h : l[i]? = some y) : l.getD i z = y := by simp [h]
theorem spread_any {es : List El} {M : List Bool} {b cap : Nat} [hp : KPat K p es] (hs : Sat K w (F :: Rs)) (hr : RowL 4 encBo 1 (.slice (some ⟨b, 0, none⟩) M.length cap) M F) (hM : M.length = es.length + 1) (hE : es.length ≤ 1000000) :
    Ret Tryz.prog 68 #[ptr p, .slice (some ⟨b, 0, none⟩) M.length cap] w fun _ w' => ∃ F', RowL 4 encBo 1 (.slice (some ⟨b, 0, none⟩) M.length cap) (sprK es es.length M) F' ∧ Sat K w' (F' :: Rs) := by
  obtain ⟨s, v, hk, hv⟩ := hp.ex
  obtain ⟨ad, ca, rfl, hv1, hv2⟩ := hv.ex
  have hv : KRow encEl 1 K (.slice ad es.length ca) es := hv
  refine Ret.enter (n := 29) (args := [ptr p, .slice (some ⟨b, 0, none⟩) M.length cap]) Tryz.func68 rfl rfl ?_
  refine C.keep [(0, _), (1, _)] ⟨rfl, rfl, trivial⟩ ?_
  refine C.seq ?_
  refine C.region ?_
  refine R.ev rfl (E.move rfl) ?_
  refine R.ev rfl (E.nilCheck rfl) ?_
  first | refine R.ev rfl (E.fieldAddr0 1 rfl Tryz.underlying118 rfl Tryz.sz116 rfl) ?_ | refine R.ev rfl (E.fieldAddrN 1 rfl Tryz.underlying118 rfl Tryz.sz116 rfl) ?_
  refine R.ev rfl (E.load1 rfl Tryz.underlying116 rfl (by first | exact hs.ldc | exact hs.ld rfl | exact hs.ld (by assumption) | exact by assumption | exact At.cellC (by assumption) | exact hs.ldK rfl)) ?_
  refine R.ev rfl (E.lenSl rfl Tryz.underlying116) ?_
  refine R.ev rfl (E.move rfl) ?_
  refine R.done ?_
  refine X.keep [(1, _), (9, _), (10, _), (11, _)] ⟨rfl, rfl, rfl, rfl, trivial⟩ ?_
  refine X.next ?_
  refine C.block ?_
  refine C.loop (T := Nat × Hl) [(1, _), (9, _), (10, _)] (fun (k, _) => [(11, .int .i64 (k : Nat))]) (fun (k, F') w' => k ≤ es.length ∧ RowL 4 encBo 1 (.slice (some ⟨b, 0, none⟩) M.length cap) (sprK es k M) F' ∧ Sat K w' (F' :: Rs)) (fun (k, _) => es.length - k) ((0, F)) ⟨rfl, rfl, rfl, rfl, trivial⟩ ⟨Nat.zero_le _, hr, hs⟩ ?_
  rintro ⟨k, F1⟩ w1 ⟨hk1, r1, hs⟩
  have hln := sprK_len es M k
  refine C.keep [(1, _), (9, _), (10, _), (11, _)] ⟨rfl, rfl, rfl, rfl, trivial⟩ ?_
  refine C.seq ?_
  refine C.region ?_
  refine R.ev rfl (E.lss rfl rfl) ?_
  refine R.done ?_
  refine X.keep [(1, _), (9, _), (10, _), (11, _), (12, _)] ⟨rfl, rfl, rfl, rfl, rfl, trivial⟩ ?_
  refine X.next ?_
  refine C.seq ?_
  refine C.cdec rfl (fun h12 => ?_) (fun h12 => ?_)
  · obtain ⟨y, bk_y, of_y, hy, my, ly, rfl, Ay⟩ := hs.el (i := k) (ad := ad) (n := es.length) (c := ca) (by omega)
    have ay := Ay _ hs
    obtain ⟨u, bk_u, of_u, hu, mu, lu, eu, Au⟩ := hs.el (i := k) (ad := some ⟨b, 0, none⟩) (n := M.length) (c := cap) (by omega)
    simp only [Option.some.injEq, Addr.mk.injEq, and_true] at eu
    obtain ⟨rfl, rfl⟩ := eu
    have au := Au _ hs
    refine C.skip ?_
    refine X.next ?_
    refine C.seq ?_
    refine C.block ?_
    refine C.seq ?_
    refine C.region ?_
    refine R.ev rfl (E.move rfl) ?_
    refine R.ev rfl (E.indexAddr rfl rfl Tryz.underlying116 Tryz.sz131 rfl (by first | omega | decide)) ?_
    refine R.ev rfl (E.load1 rfl Tryz.underlying131 rfl (ay 0 _ rfl)) ?_
    refine R.ev rfl (E.assign rfl) ?_
    refine R.ev rfl (E.assign rfl) ?_
    refine R.done ?_
    refine X.keep [(1, _), (4, _), (5, _), (9, _), (10, _), (11, _)] ⟨rfl, rfl, rfl, rfl, rfl, rfl, trivial⟩ ?_
    refine X.next ?_
    refine C.seq ?_
    refine C.region ?_
    refine R.ev rfl (E.move rfl) ?_
    refine R.ev rfl (E.move rfl) ?_
    refine R.ev rfl (E.indexAddr rfl rfl Tryz.underlying127 Tryz.sz4 rfl (by first | omega | decide)) ?_
    refine R.ev rfl (E.load1 rfl Tryz.underlying4 rfl (au 0 _ rfl)) ?_
    refine R.ev rfl (E.move rfl) ?_
    refine R.split 20 rfl (fun h20 => ?_) (fun h20 => ?_)
    · refine R.gyes rfl rfl ?_
      refine R.ev rfl (E.move rfl) ?_
      refine R.gyes rfl rfl ?_
      refine R.call ⟨_, _, Tryz.func70, rfl, by kernel_rfl⟩ rfl rfl (isStar_any y hs) ?_
      rintro _ w3 ⟨rfl, hs⟩
      refine R.ev rfl (E.pickT rfl rfl) ?_
      refine R.done ?_
      refine X.keep [(1, _), (4, _), (9, _), (10, _), (11, _), (23, _)] ⟨rfl, rfl, rfl, rfl, rfl, rfl, trivial⟩ ?_
      refine X.next ?_
      refine C.cbool rfl (fun h23 => ?_) (fun h23 => ?_)
      · refine C.region ?_
        have hst : sprK es (k + 1) M = (sprK es k M).set (k + 1) true := by rw [sprK, getD_of hu, getD_of hy]; simp_all
        refine R.ev rfl (E.move rfl) ?_
        refine R.ev rfl (E.move rfl) ?_
        refine R.ev rfl (E.add rfl rfl (by omega) (by omega)) ?_
        refine R.ev rfl (E.indexAddr (i := k + 1) rfl rfl Tryz.underlying127 Tryz.sz4 (by omega) (by omega)) ?_
        refine R.ssetF (el := (sprK es k M).getD (k + 1) false) (el' := true) (k + 1) hs r1 rfl rfl Tryz.sz4 ?_ ?_ (off := 0) (by omega) (by decide) rfl ?_
        · rw [List.getElem?_eq_getElem (by omega)]; simp [show k + 1 < (sprK es k M).length by omega]
        · simp [encBo]
        intro w4 F2 r2 hs
        rw [← hst] at r2
        refine R.done ?_
        refine X.keep [(1, _), (9, _), (10, _), (11, _)] ⟨rfl, rfl, rfl, rfl, trivial⟩ ?_
        refine X.blockNormal ?_
        refine X.next ?_
        refine C.region ?_
        refine R.ev rfl (E.add rfl rfl (by omega) (by omega)) ?_
        refine R.ev rfl (E.move rfl) ?_
        refine R.done ?_
        refine X.keep [(1, _), (9, _), (10, _), (11, _)] ⟨rfl, rfl, rfl, rfl, trivial⟩ ?_
        first
          | exact X.again (k + 1, F2) ⟨rfl, rfl, rfl, rfl, trivial⟩ ⟨by omega, r2, hs⟩ (by show _ - _ < _ - _; omega)
          | (have hst : sprK es (k + 1) M = sprK es k M := by rw [sprK, getD_of hu, getD_of hy, if_neg]; cases y <;> simp_all
             exact X.again (k + 1, F1) ⟨rfl, rfl, rfl, rfl, trivial⟩ ⟨by omega, by rw [hst]; exact r1, hs⟩ (by show _ - _ < _ - _; omega))
      · refine C.skip ?_
        refine X.blockNormal ?_
        refine X.next ?_
        refine C.region ?_
        refine R.ev rfl (E.add rfl rfl (by omega) (by omega)) ?_
        refine R.ev rfl (E.move rfl) ?_
        refine R.done ?_
        refine X.keep [(1, _), (9, _), (10, _), (11, _)] ⟨rfl, rfl, rfl, rfl, trivial⟩ ?_
        first
          | exact X.again (k + 1, F2) ⟨rfl, rfl, rfl, rfl, trivial⟩ ⟨by omega, r2, hs⟩ (by show _ - _ < _ - _; omega)
          | (have hst : sprK es (k + 1) M = sprK es k M := by rw [sprK, getD_of hu, getD_of hy, if_neg]; cases y <;> simp_all
             exact X.again (k + 1, F1) ⟨rfl, rfl, rfl, rfl, trivial⟩ ⟨by omega, by rw [hst]; exact r1, hs⟩ (by show _ - _ < _ - _; omega))
    · refine R.gskip rfl rfl rfl ?_
      refine R.gskip rfl rfl rfl ?_
      refine R.ev rfl (E.pickF rfl rfl) ?_
      refine R.done ?_
      refine X.keep [(1, _), (4, _), (9, _), (10, _), (11, _), (23, _)] ⟨rfl, rfl, rfl, rfl, rfl, rfl, trivial⟩ ?_
      refine X.next ?_
      refine C.cfalse rfl ?_
      refine C.skip ?_
      refine X.blockNormal ?_
      refine X.next ?_
      refine C.region ?_
      refine R.ev rfl (E.add rfl rfl (by omega) (by omega)) ?_
      refine R.ev rfl (E.move rfl) ?_
      refine R.done ?_
      refine X.keep [(1, _), (9, _), (10, _), (11, _)] ⟨rfl, rfl, rfl, rfl, trivial⟩ ?_
      first
        | exact X.again (k + 1, F2) ⟨rfl, rfl, rfl, rfl, trivial⟩ ⟨by omega, r2, hs⟩ (by show _ - _ < _ - _; omega)
        | (have hst : sprK es (k + 1) M = sprK es k M := by rw [sprK, getD_of hu, getD_of hy, if_neg]; cases y <;> simp_all
           exact X.again (k + 1, F1) ⟨rfl, rfl, rfl, rfl, trivial⟩ ⟨by omega, by rw [hst]; exact r1, hs⟩ (by show _ - _ < _ - _; omega))
  · refine C.exit ?_
    refine X.thenExit ?_
    refine X.loopExit ?_
    refine X.blockExit ?_
    refine X.bodyNormal ?_
    refine X.ret0 rfl ?_
    exact ⟨F1, by rwa [show k = es.length by omega] at r1, hs⟩
def stepK (es : List El) (m : List Bool) (c : UInt8) : Nat → List Bool
  | 0 => List.replicate (es.length + 1) false
  | k + 1 => if m.getD k false && standB (es.getD k (some 0)) c then (if (es.getD k (some 0)).isNone then (stepK es m c k).set k true else (stepK es m c k).set (k + 1) true) else stepK es m c k
theorem stepK_len (es : List El) (m : List Bool) (c : UInt8) : ∀ k, (stepK es m c k).length = es.length + 1
  | 0 => by simp [stepK]
  | k + 1 => by
    unfold stepK
    split
    · split <;> rw [List.length_set] <;> exact stepK_len es m c k
    · exact stepK_len es m c k
def mstep (es : List El) (m : List Bool) (c : UInt8) : List Bool := sprK es es.length (stepK es m c es.length)
def mstart (es : List El) : List Bool := sprK es es.length ((List.replicate (es.length + 1) false).set 0 true)
theorem mrun_len (es : List El) (l : List UInt8) : (l.foldl (mstep es) (mstart es)).length = es.length + 1 := by
  have key : ∀ (l : List UInt8) (m : List Bool), m.length = es.length + 1 → (l.foldl (mstep es) m).length = es.length + 1 := by
    intro l
    induction l with
    | nil => exact fun m h => h
    | cons a l ih => exact fun m _ => ih _ (by rw [mstep, sprK_len, stepK_len])
  exact key l _ (by rw [mstart, sprK_len]; simp)
def matchB (es : List El) (l : List UInt8) : Bool := (l.foldl (mstep es) (mstart es)).getD es.length false
theorem match_any {es : List El} (l : List UInt8) [hp : KPat K p es] (hs : Sat K w Hs) (hE : es.length ≤ 1000000) (hl : l.length ≤ 1000000) :
    Ret Tryz.prog 50 #[ptr p, str l] w fun v w' => v = .bool (matchB es l) ∧ Sat K w' Hs := by
  obtain ⟨s, v, hk, hv⟩ := hp.ex
  obtain ⟨ad, ca, rfl, hv1, hv2⟩ := hv.ex
  have hv : KRow encEl 1 K (.slice ad es.length ca) es := hv
  refine Ret.enter (n := 81) (args := [ptr p, str l]) Tryz.func50 rfl rfl ?_
  refine C.keep [(0, _), (1, _)] ⟨rfl, rfl, trivial⟩ ?_
  refine C.seq ?_
  refine C.region ?_
  refine R.ev rfl (E.assign rfl) ?_
  refine R.done ?_
  refine X.keep [(0, _), (1, _)] ⟨rfl, rfl, trivial⟩ ?_
  refine X.next ?_
  refine C.seq ?_
  refine C.seq ?_
  refine C.region ?_
  refine R.ev rfl (E.move rfl) ?_
  refine R.ev rfl (E.eqlNilF rfl rfl Tryz.underlying98) ?_
  refine R.done ?_
  refine X.keep [(0, _), (1, _), (12, _)] ⟨rfl, rfl, rfl, trivial⟩ ?_
  refine X.next ?_
  refine C.cfalse rfl ?_
  refine C.skip ?_
  refine X.next ?_
  refine C.seq ?_
  refine C.region ?_
  refine R.ev rfl (E.move rfl) ?_
  refine R.ev rfl (E.nilCheck rfl) ?_
  first | refine R.ev rfl (E.fieldAddr0 1 rfl Tryz.underlying118 rfl Tryz.sz116 rfl) ?_ | refine R.ev rfl (E.fieldAddrN 1 rfl Tryz.underlying118 rfl Tryz.sz116 rfl) ?_
  refine R.ev rfl (E.load1 rfl Tryz.underlying116 rfl (by first | exact hs.ldc | exact hs.ld rfl | exact hs.ld (by assumption) | exact by assumption | exact At.cellC (by assumption) | exact hs.ldK rfl)) ?_
  refine R.ev rfl (E.lenSl rfl Tryz.underlying116) ?_
  refine R.ev rfl (E.add rfl rfl (by omega) (by omega)) ?_
  refine R.cmakeZ (enc := encBo) false (m := es.length + 1) hs rfl rfl Tryz.underlying127 Tryz.by4 rfl rfl rfl rfl (by omega) (by omega) (by decide) ?_
  intro b5 w5 r5 hs
  refine R.ev rfl (E.assign rfl) ?_
  refine R.done ?_
  refine X.keep [(0, _), (1, _), (5, _)] ⟨rfl, rfl, rfl, trivial⟩ ?_
  refine X.next ?_
  refine C.seq ?_
  refine C.region ?_
  refine R.ev rfl (E.move rfl) ?_
  refine R.ev rfl (E.indexAddr (i := 0) rfl rfl Tryz.underlying127 Tryz.sz4 rfl (by omega)) ?_
  refine R.ssetF (el := false) (el' := true) 0 hs r5 rfl rfl Tryz.sz4 ?_ ?_ (off := 0) (by omega) (by decide) rfl ?_
  · simp
  · simp [encBo]
  intro w4 F4 r4 hs
  have r4 : RowL 4 encBo 1 (.slice (some ⟨b5, 0, none⟩) ((List.replicate (es.length + 1) false).set 0 true).length (es.length + 1)) ((List.replicate (es.length + 1) false).set 0 true) F4 := by rw [show ((List.replicate (es.length + 1) false).set 0 true).length = es.length + 1 by simp]; exact r4
  refine R.done ?_
  refine X.keep [(0, _), (1, _), (5, _)] ⟨rfl, rfl, rfl, trivial⟩ ?_
  refine X.next ?_
  refine C.seq ?_
  refine C.region ?_
  refine R.ev rfl (E.move rfl) ?_
  refine R.ev rfl (E.move rfl) ?_
  refine R.call ⟨_, _, Tryz.func68, rfl, by kernel_rfl⟩ rfl rfl ((by have := spread_any (es := es) (p := p) hs r4 (by simp) hE; rwa [show ((List.replicate (es.length + 1) false).set 0 true).length = es.length + 1 by simp] at this)) ?_
  rintro _ w5 ⟨F5, r5, hs⟩
  refine R.done ?_
  refine X.keep [(0, _), (1, _), (5, _)] ⟨rfl, rfl, rfl, trivial⟩ ?_
  refine X.next ?_
  refine C.seq ?_
  refine C.seq ?_
  refine C.region ?_
  refine R.ev rfl (E.move rfl) ?_
  refine R.cstrBytes hs rfl Tryz.underlying9 Tryz.underlying129 Tryz.underlying5 rfl ?_
  intro v6 w6 F6 r6 hs
  obtain ⟨b6, c6, rfl, hc6⟩ := r6.val
  have r6 : RB (.slice (some ⟨b6, 0, none⟩) l.length c6) l F6 := r6
  refine R.ev rfl (E.lenSl rfl Tryz.underlying129) ?_
  refine R.ev rfl (E.move rfl) ?_
  refine R.done ?_
  refine X.keep [(0, _), (5, _), (26, _), (27, _), (28, _)] ⟨rfl, rfl, rfl, rfl, rfl, trivial⟩ ?_
  refine X.next ?_
  refine C.block ?_
  refine C.loop (T := Nat × Nat × Hl) [(0, _), (26, _), (27, _)] (fun (k, b, _) => [(5, .slice (some ⟨b, 0, none⟩) (es.length + 1) (es.length + 1)), (28, .int .i64 (k : Nat))]) (fun (k, b, F') w' => k ≤ l.length ∧ RowL 4 encBo 1 (.slice (some ⟨b, 0, none⟩) (es.length + 1) (es.length + 1)) ((l.take k).foldl (mstep es) (mstart es)) F' ∧ Sat K w' (F6 :: F' :: Hs)) (fun (k, _) => l.length - k) ((0, b5, F5)) ⟨rfl, rfl, rfl, rfl, rfl, trivial⟩ ⟨Nat.zero_le _, r5, hs⟩ ?_
  clear hs r5
  rintro ⟨k, b, F7⟩ w7 ⟨hk7, r7, hs⟩
  have hml := mrun_len es (l.take k)
  generalize hM : (l.take k).foldl (mstep es) (mstart es) = M at r7 hml
  refine C.keep [(0, _), (5, _), (26, _), (27, _), (28, _)] ⟨rfl, rfl, rfl, rfl, rfl, trivial⟩ ?_
  refine C.seq ?_
  refine C.region ?_
  refine R.ev rfl (E.lss rfl rfl) ?_
  refine R.done ?_
  refine X.keep [(0, _), (5, _), (26, _), (27, _), (28, _), (29, _)] ⟨rfl, rfl, rfl, rfl, rfl, rfl, trivial⟩ ?_
  refine X.next ?_
  refine C.seq ?_
  refine C.cdec rfl (fun h29 => ?_) (fun h29 => ?_)
  · obtain ⟨y, bk_y, of_y, hy, my, ly, ey, Ay⟩ := hs.el (i := k) (ad := some ⟨b6, 0, none⟩) (n := l.length) (c := c6) (by omega)
    simp only [Option.some.injEq, Addr.mk.injEq, and_true] at ey
    obtain ⟨rfl, rfl⟩ := ey
    have ay := Ay _ hs
    have htk : l.take (k + 1) = l.take k ++ [y] := by rw [List.take_add_one, hy]; rfl
    refine C.skip ?_
    refine X.next ?_
    refine C.seq ?_
    refine C.block ?_
    refine C.seq ?_
    refine C.region ?_
    refine R.ev rfl (E.indexAddr rfl rfl Tryz.underlying129 Tryz.sz5 rfl (by first | omega | decide)) ?_
    refine R.ev rfl (E.load1 rfl Tryz.underlying5 rfl (ay 0 _ rfl)) ?_
    refine R.ev rfl (E.assign rfl) ?_
    refine R.done ?_
    refine X.keep [(0, _), (5, _), (7, _), (26, _), (27, _), (28, _)] ⟨rfl, rfl, rfl, rfl, rfl, rfl, trivial⟩ ?_
    refine X.next ?_
    refine C.seq ?_
    refine C.region ?_
    refine R.ev rfl (E.move rfl) ?_
    refine R.ev rfl (E.lenSl rfl Tryz.underlying127) ?_
    refine R.cmakeZ (enc := encBo) false (m := es.length + 1) hs rfl rfl Tryz.underlying127 Tryz.by4 rfl rfl (by push_cast; rfl) (by push_cast; rfl) (by omega) (by omega) (by decide) ?_
    intro b9 w9 r9 hs
    refine R.ev rfl (E.assign rfl) ?_
    refine R.done ?_
    refine X.keep [(0, _), (5, _), (7, _), (8, _), (26, _), (27, _), (28, _)] ⟨rfl, rfl, rfl, rfl, rfl, rfl, rfl, trivial⟩ ?_
    refine X.next ?_
    refine C.seq ?_
    refine C.seq ?_
    refine C.region ?_
    refine R.ev rfl (E.move rfl) ?_
    refine R.ev rfl (E.nilCheck rfl) ?_
    first | refine R.ev rfl (E.fieldAddr0 1 rfl Tryz.underlying118 rfl Tryz.sz116 rfl) ?_ | refine R.ev rfl (E.fieldAddrN 1 rfl Tryz.underlying118 rfl Tryz.sz116 rfl) ?_
    refine R.ev rfl (E.load1 rfl Tryz.underlying116 rfl (by first | exact hs.ldc | exact hs.ld rfl | exact hs.ld (by assumption) | exact by assumption | exact At.cellC (by assumption) | exact hs.ldK rfl)) ?_
    refine R.ev rfl (E.lenSl rfl Tryz.underlying116) ?_
    refine R.ev rfl (E.move rfl) ?_
    refine R.done ?_
    refine X.keep [(0, _), (5, _), (7, _), (8, _), (26, _), (27, _), (28, _), (38, _), (39, _), (40, _)] ⟨rfl, rfl, rfl, rfl, rfl, rfl, rfl, rfl, rfl, rfl, trivial⟩ ?_
    refine X.next ?_
    refine C.block ?_
    refine C.loop (T := Nat × Hl) [(0, _), (5, _), (7, _), (8, _), (26, _), (27, _), (28, _), (38, _), (39, _)] (fun (j, _) => [(40, .int .i64 (j : Nat))]) (fun (j, F') w' => j ≤ es.length ∧ RowL 4 encBo 1 (.slice (some ⟨b9, 0, none⟩) (es.length + 1) (es.length + 1)) (stepK es M y j) F' ∧ Sat K w' (F' :: F6 :: F7 :: Hs)) (fun (j, _) => es.length - j) ((0, _)) ⟨rfl, rfl, rfl, rfl, rfl, rfl, rfl, rfl, rfl, rfl, trivial⟩ ⟨Nat.zero_le _, r9, hs⟩ ?_
    clear hs r9
    rintro ⟨j, F8⟩ w8 ⟨hj, r8, hs⟩
    have hsl := stepK_len es M y j
    refine C.keep [(0, _), (5, _), (7, _), (8, _), (26, _), (27, _), (28, _), (38, _), (39, _), (40, _)] ⟨rfl, rfl, rfl, rfl, rfl, rfl, rfl, rfl, rfl, rfl, trivial⟩ ?_
    refine C.seq ?_
    refine C.region ?_
    refine R.ev rfl (E.lss rfl rfl) ?_
    refine R.done ?_
    refine X.keep [(0, _), (5, _), (7, _), (8, _), (26, _), (27, _), (28, _), (38, _), (39, _), (40, _), (41, _)] ⟨rfl, rfl, rfl, rfl, rfl, rfl, rfl, rfl, rfl, rfl, rfl, trivial⟩ ?_
    refine X.next ?_
    refine C.seq ?_
    refine C.cdec rfl (fun h41 => ?_) (fun h41 => ?_)
    · obtain ⟨e, bk_e, of_e, he, me, le, rfl, Ae⟩ := hs.el (i := j) (ad := ad) (n := es.length) (c := ca) (by omega)
      have ae := Ae _ hs
      obtain ⟨u, bk_u, of_u, hu, mu, lu, eu, Au⟩ := hs.el (i := j) (ad := some ⟨b, 0, none⟩) (n := es.length + 1) (c := es.length + 1) (by omega)
      simp only [Option.some.injEq, Addr.mk.injEq, and_true] at eu
      obtain ⟨rfl, rfl⟩ := eu
      have au := Au _ hs
      refine C.skip ?_
      refine X.next ?_
      refine C.seq ?_
      refine C.block ?_
      refine C.seq ?_
      refine C.region ?_
      refine R.ev rfl (E.move rfl) ?_
      refine R.ev rfl (E.indexAddr rfl rfl Tryz.underlying116 Tryz.sz131 rfl (by first | omega | decide)) ?_
      refine R.ev rfl (E.load1 rfl Tryz.underlying131 rfl (ae 0 _ rfl)) ?_
      refine R.ev rfl (E.assign rfl) ?_
      refine R.ev rfl (E.assign rfl) ?_
      refine R.done ?_
      refine X.keep [(0, _), (5, _), (7, _), (8, _), (9, _), (10, _), (26, _), (27, _), (28, _), (38, _), (39, _), (40, _)] ⟨rfl, rfl, rfl, rfl, rfl, rfl, rfl, rfl, rfl, rfl, rfl, rfl, trivial⟩ ?_
      refine X.next ?_
      refine C.block ?_
      refine C.seq ?_
      refine C.region ?_
      refine R.ev rfl (E.move rfl) ?_
      refine R.ev rfl (E.move rfl) ?_
      refine R.ev rfl (E.indexAddr rfl rfl Tryz.underlying127 Tryz.sz4 rfl (by first | omega | decide)) ?_
      refine R.ev rfl (E.load1 rfl Tryz.underlying4 rfl (au 0 _ rfl)) ?_
      refine R.ev rfl (E.not rfl) ?_
      refine R.ev rfl (E.move rfl) ?_
      refine R.split 55 rfl (fun h55 => ?_) (fun h55 => ?_)
      · refine R.gskip rfl rfl rfl ?_
        refine R.gskip rfl rfl rfl ?_
        refine R.gskip rfl rfl rfl ?_
        refine R.gskip rfl rfl rfl ?_
        refine R.ev rfl (E.pickT rfl rfl) ?_
        refine R.ev rfl (E.assign rfl) ?_
        refine R.done ?_
        refine X.keep [(0, _), (5, _), (7, _), (8, _), (9, _), (10, _), (26, _), (27, _), (28, _), (38, _), (39, _), (40, _), (49, _)] ⟨rfl, rfl, rfl, rfl, rfl, rfl, rfl, rfl, rfl, rfl, rfl, rfl, rfl, trivial⟩ ?_
        refine X.next ?_
        refine C.ctrue rfl ?_
        refine C.skip ?_
        refine X.blockNormal ?_
        refine X.blockNormal ?_
        refine X.next ?_
        refine C.region ?_
        refine R.ev rfl (E.add rfl rfl (by omega) (by omega)) ?_
        refine R.ev rfl (E.move rfl) ?_
        refine R.done ?_
        refine X.keep [(0, _), (5, _), (7, _), (8, _), (26, _), (27, _), (28, _), (38, _), (39, _), (40, _)] ⟨rfl, rfl, rfl, rfl, rfl, rfl, rfl, rfl, rfl, rfl, trivial⟩ ?_
        first
          | exact X.again (j + 1, F9) ⟨rfl, rfl, rfl, rfl, rfl, rfl, rfl, rfl, rfl, rfl, trivial⟩ ⟨by omega, r9, hs⟩ (by show _ - _ < _ - _; omega)
          | (have hcn : ¬ (M.getD j false && standB (es.getD j (some 0)) y) = true := by rw [getD_of hu, getD_of he]; simp_all
             have hst : stepK es M y (j + 1) = stepK es M y j := by rw [stepK, if_neg hcn]
             exact X.again (j + 1, F8) ⟨rfl, rfl, rfl, rfl, rfl, rfl, rfl, rfl, rfl, rfl, trivial⟩ ⟨by omega, by rw [hst]; exact r8, hs⟩ (by show _ - _ < _ - _; omega))
      · refine R.gyes rfl rfl ?_
        refine R.ev rfl (E.move rfl) ?_
        refine R.gyes rfl rfl ?_
        refine R.ev rfl (E.move rfl) ?_
        refine R.gyes rfl rfl ?_
        refine R.call ⟨_, _, Tryz.func69, rfl, by kernel_rfl⟩ rfl rfl (stands_any e y hs) ?_
        rintro _ w14 ⟨rfl, hs⟩
        refine R.gyes rfl rfl ?_
        refine R.ev rfl (E.not rfl) ?_
        refine R.ev rfl (E.pickF rfl rfl) ?_
        refine R.ev rfl (E.assign rfl) ?_
        refine R.done ?_
        refine X.keep [(0, _), (5, _), (7, _), (8, _), (9, _), (10, _), (26, _), (27, _), (28, _), (38, _), (39, _), (40, _), (49, _)] ⟨rfl, rfl, rfl, rfl, rfl, rfl, rfl, rfl, rfl, rfl, rfl, rfl, rfl, trivial⟩ ?_
        refine X.next ?_
        refine C.cbool rfl (fun h49 => ?_) (fun h49 => ?_)
        · refine C.skip ?_
          refine X.blockNormal ?_
          refine X.blockNormal ?_
          refine X.next ?_
          refine C.region ?_
          refine R.ev rfl (E.add rfl rfl (by omega) (by omega)) ?_
          refine R.ev rfl (E.move rfl) ?_
          refine R.done ?_
          refine X.keep [(0, _), (5, _), (7, _), (8, _), (26, _), (27, _), (28, _), (38, _), (39, _), (40, _)] ⟨rfl, rfl, rfl, rfl, rfl, rfl, rfl, rfl, rfl, rfl, trivial⟩ ?_
          first
            | exact X.again (j + 1, F9) ⟨rfl, rfl, rfl, rfl, rfl, rfl, rfl, rfl, rfl, rfl, trivial⟩ ⟨by omega, r9, hs⟩ (by show _ - _ < _ - _; omega)
            | (have hcn : ¬ (M.getD j false && standB (es.getD j (some 0)) y) = true := by rw [getD_of hu, getD_of he]; simp_all
               have hst : stepK es M y (j + 1) = stepK es M y j := by rw [stepK, if_neg hcn]
               exact X.again (j + 1, F8) ⟨rfl, rfl, rfl, rfl, rfl, rfl, rfl, rfl, rfl, rfl, trivial⟩ ⟨by omega, by rw [hst]; exact r8, hs⟩ (by show _ - _ < _ - _; omega))
        · refine C.seq ?_
          refine C.region ?_
          have hcn : (M.getD j false && standB (es.getD j (some 0)) y) = true := by rw [getD_of hu, getD_of he]; simp_all
          refine R.ev rfl (E.move rfl) ?_
          refine R.call ⟨_, _, Tryz.func70, rfl, by kernel_rfl⟩ rfl rfl (isStar_any e hs) ?_
          rintro _ w15 ⟨rfl, hs⟩
          refine R.ev rfl (E.assign rfl) ?_
          refine R.done ?_
          refine X.keep [(0, _), (5, _), (7, _), (8, _), (9, _), (26, _), (27, _), (28, _), (38, _), (39, _), (40, _), (61, _)] ⟨rfl, rfl, rfl, rfl, rfl, rfl, rfl, rfl, rfl, rfl, rfl, rfl, trivial⟩ ?_
          refine X.next ?_
          refine C.cbool rfl (fun h61 => ?_) (fun h61 => ?_)
          · refine C.region ?_
            have hst : stepK es M y (j + 1) = (stepK es M y j).set j true := by rw [stepK, if_pos hcn, if_pos (by rw [getD_of he]; exact h61)]
            refine R.ev rfl (E.move rfl) ?_
            refine R.ev rfl (E.move rfl) ?_
            refine R.ev rfl (E.indexAddr rfl rfl Tryz.underlying127 Tryz.sz4 rfl (by first | omega | decide)) ?_
            refine R.ssetF (el := (stepK es M y j).getD j false) (el' := true) j hs r8 rfl rfl Tryz.sz4 ?_ ?_ (off := 0) (by omega) (by decide) rfl ?_
            · rw [List.getElem?_eq_getElem (by omega)]; simp [show j < (stepK es M y j).length by omega]
            · simp [encBo]
            intro w16 F9 r9 hs
            rw [← hst] at r9
            refine R.done ?_
            refine X.keep [(0, _), (5, _), (7, _), (8, _), (26, _), (27, _), (28, _), (38, _), (39, _), (40, _)] ⟨rfl, rfl, rfl, rfl, rfl, rfl, rfl, rfl, rfl, rfl, trivial⟩ ?_
            refine X.blockNormal ?_
            refine X.blockNormal ?_
            refine X.next ?_
            refine C.region ?_
            refine R.ev rfl (E.add rfl rfl (by omega) (by omega)) ?_
            refine R.ev rfl (E.move rfl) ?_
            refine R.done ?_
            refine X.keep [(0, _), (5, _), (7, _), (8, _), (26, _), (27, _), (28, _), (38, _), (39, _), (40, _)] ⟨rfl, rfl, rfl, rfl, rfl, rfl, rfl, rfl, rfl, rfl, trivial⟩ ?_
            first
              | exact X.again (j + 1, F9) ⟨rfl, rfl, rfl, rfl, rfl, rfl, rfl, rfl, rfl, rfl, trivial⟩ ⟨by omega, r9, hs⟩ (by show _ - _ < _ - _; omega)
              | (have hcn : ¬ (M.getD j false && standB (es.getD j (some 0)) y) = true := by rw [getD_of hu, getD_of he]; simp_all
                 have hst : stepK es M y (j + 1) = stepK es M y j := by rw [stepK, if_neg hcn]
                 exact X.again (j + 1, F8) ⟨rfl, rfl, rfl, rfl, rfl, rfl, rfl, rfl, rfl, rfl, trivial⟩ ⟨by omega, by rw [hst]; exact r8, hs⟩ (by show _ - _ < _ - _; omega))
          · refine C.region ?_
            have hst : stepK es M y (j + 1) = (stepK es M y j).set (j + 1) true := by rw [stepK, if_pos hcn, if_neg (by rw [getD_of he, h61]; decide)]
            refine R.ev rfl (E.move rfl) ?_
            refine R.ev rfl (E.move rfl) ?_
            refine R.ev rfl (E.add rfl rfl (by omega) (by omega)) ?_
            refine R.ev rfl (E.indexAddr (i := j + 1) rfl rfl Tryz.underlying127 Tryz.sz4 (by omega) (by omega)) ?_
            refine R.ssetF (el := (stepK es M y j).getD (j + 1) false) (el' := true) (j + 1) hs r8 rfl rfl Tryz.sz4 ?_ ?_ (off := 0) (by omega) (by decide) rfl ?_
            · rw [List.getElem?_eq_getElem (by omega)]; simp [show j + 1 < (stepK es M y j).length by omega]
            · simp [encBo]
            intro w16 F9 r9 hs
            rw [← hst] at r9
            refine R.done ?_
            refine X.keep [(0, _), (5, _), (7, _), (8, _), (26, _), (27, _), (28, _), (38, _), (39, _), (40, _)] ⟨rfl, rfl, rfl, rfl, rfl, rfl, rfl, rfl, rfl, rfl, trivial⟩ ?_
            refine X.blockNormal ?_
            refine X.blockNormal ?_
            refine X.next ?_
            refine C.region ?_
            refine R.ev rfl (E.add rfl rfl (by omega) (by omega)) ?_
            refine R.ev rfl (E.move rfl) ?_
            refine R.done ?_
            refine X.keep [(0, _), (5, _), (7, _), (8, _), (26, _), (27, _), (28, _), (38, _), (39, _), (40, _)] ⟨rfl, rfl, rfl, rfl, rfl, rfl, rfl, rfl, rfl, rfl, trivial⟩ ?_
            first
              | exact X.again (j + 1, F9) ⟨rfl, rfl, rfl, rfl, rfl, rfl, rfl, rfl, rfl, rfl, trivial⟩ ⟨by omega, r9, hs⟩ (by show _ - _ < _ - _; omega)
              | (have hcn : ¬ (M.getD j false && standB (es.getD j (some 0)) y) = true := by rw [getD_of hu, getD_of he]; simp_all
                 have hst : stepK es M y (j + 1) = stepK es M y j := by rw [stepK, if_neg hcn]
                 exact X.again (j + 1, F8) ⟨rfl, rfl, rfl, rfl, rfl, rfl, rfl, rfl, rfl, rfl, trivial⟩ ⟨by omega, by rw [hst]; exact r8, hs⟩ (by show _ - _ < _ - _; omega))
    · refine C.exit ?_
      refine X.thenExit ?_
      refine X.loopExit ?_
      refine X.blockExit ?_
      refine X.next ?_
      refine C.seq ?_
      refine C.region ?_
      obtain rfl : es.length = j := by omega
      have r8 : RowL 4 encBo 1 (.slice (some ⟨b9, 0, none⟩) (stepK es M y es.length).length (es.length + 1)) (stepK es M y es.length) F8 := by rw [hsl]; exact r8
      refine R.ev rfl (E.move rfl) ?_
      refine R.ev rfl (E.move rfl) ?_
      refine R.call ⟨_, _, Tryz.func68, rfl, by kernel_rfl⟩ rfl rfl ((by have := spread_any (es := es) (p := p) hs r8 hsl hE; rwa [hsl] at this)) ?_
      rintro _ w18 ⟨F18, r18, hs⟩
      refine R.done ?_
      refine X.keep [(0, _), (8, _), (26, _), (27, _), (28, _)] ⟨rfl, rfl, rfl, rfl, rfl, trivial⟩ ?_
      refine X.next ?_
      refine C.region ?_
      refine R.ev rfl (E.move rfl) ?_
      refine R.ev rfl (E.assign rfl) ?_
      refine R.done ?_
      refine X.keep [(0, _), (5, _), (26, _), (27, _), (28, _)] ⟨rfl, rfl, rfl, rfl, rfl, trivial⟩ ?_
      refine X.blockNormal ?_
      refine X.next ?_
      refine C.region ?_
      refine R.ev rfl (E.add rfl rfl (by omega) (by omega)) ?_
      refine R.ev rfl (E.move rfl) ?_
      refine R.done ?_
      refine X.keep [(0, _), (5, _), (26, _), (27, _), (28, _)] ⟨rfl, rfl, rfl, rfl, rfl, trivial⟩ ?_
      exact X.again (k + 1, b9, F18) ⟨rfl, rfl, rfl, rfl, rfl, trivial⟩ ⟨by omega, by rw [htk, List.foldl_append, hM]; exact r18, hs.to⟩ (by show _ - _ < _ - _; omega)
  · refine C.exit ?_
    refine X.thenExit ?_
    refine X.loopExit ?_
    refine X.blockExit ?_
    refine X.next ?_
    refine C.seq ?_
    refine C.region ?_
    have hke : k = l.length := by omega
    rw [hke, List.take_length] at hM
    obtain ⟨u, bk_u, of_u, hu, mu, lu, eu, Au⟩ := hs.el (i := es.length) (ad := some ⟨b, 0, none⟩) (n := es.length + 1) (c := es.length + 1) (by omega)
    simp only [Option.some.injEq, Addr.mk.injEq, and_true] at eu
    obtain ⟨rfl, rfl⟩ := eu
    have au := Au _ hs
    have hmb : matchB es l = u := by rw [matchB, hM, getD_of hu]
    refine R.ev rfl (E.move rfl) ?_
    refine R.ev rfl (E.move rfl) ?_
    refine R.ev rfl (E.nilCheck rfl) ?_
    first | refine R.ev rfl (E.fieldAddr0 1 rfl Tryz.underlying118 rfl Tryz.sz116 rfl) ?_ | refine R.ev rfl (E.fieldAddrN 1 rfl Tryz.underlying118 rfl Tryz.sz116 rfl) ?_
    refine R.ev rfl (E.load1 rfl Tryz.underlying116 rfl (by first | exact hs.ldc | exact hs.ld rfl | exact hs.ld (by assumption) | exact by assumption | exact At.cellC (by assumption) | exact hs.ldK rfl)) ?_
    refine R.ev rfl (E.lenSl rfl Tryz.underlying116) ?_
    refine R.ev rfl (E.indexAddr rfl rfl Tryz.underlying127 Tryz.sz4 rfl (by first | omega | decide)) ?_
    refine R.ev rfl (E.load1 rfl Tryz.underlying4 rfl (au 0 _ rfl)) ?_
    refine R.ev rfl (E.assign rfl) ?_
    refine R.done ?_
    refine X.keep [(4, _)] ⟨rfl, trivial⟩ ?_
    refine X.next ?_
    refine C.ret ?_
    refine X.ret1 rfl rfl ?_
    exact ⟨by rw [hmb], hs.to⟩
end Go.Proofs.YtifghjeapfijkaaGreatDoor
