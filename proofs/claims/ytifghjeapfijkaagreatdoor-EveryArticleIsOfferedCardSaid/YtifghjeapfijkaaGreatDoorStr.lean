/-
  Strings: a byte sought, a byte counted, prefixes, Split at a byte.
-/
import Derived.Test.YtifghjeapfijkaaGreatDoorByt
import Derived.Test.YtifghjeapfijkaaGreatDoorTypes
import Derived.Lib.Bytealg
namespace Go.Proofs.YtifghjeapfijkaaGreatDoor
open Go.Eng Go.RowKit

def encS (l : List UInt8) : List Value := [str l]
instance : Enc encS 1 := ⟨fun _ => rfl, fun o u hu => by simp [encS] at hu; subst hu; rfl⟩
instance {o : List UInt8} : CellOf (encS o) 0 (str o) := ⟨rfl⟩
theorem idxLite_any (l : List UInt8) (c : UInt8) (w : World) :
    Ret Tryz.prog 85 #[str l, ub c] w fun v w' => v = .int .i64 (idxL c l 0) ∧ w = w' := by
  refine Ret.enter (n := 8) (args := [str l, ub c]) Tryz.func85 rfl rfl ?_
  refine C.keep [(0, _), (1, _)] ⟨rfl, rfl, trivial⟩ ?_
  refine C.seq ?_
  refine C.region ?_
  refine R.ev rfl (E.assign rfl) ?_
  refine R.done ?_
  refine X.keep [(0, _), (1, _)] ⟨rfl, rfl, trivial⟩ ?_
  refine X.next ?_
  refine C.seq ?_
  refine C.region ?_
  refine R.ev rfl (E.move rfl) ?_
  refine R.ev rfl (E.move rfl) ?_
  refine R.ev rfl (E.ext ⟨_, Tryz.func102, by kernel_rfl, by kernel_rfl, by kernel_rfl, (by kernel_rfl : Extern.find _ = some Extern.BytealgIndexByte.indexByte)⟩ rfl (run_indexStr _ _)) ?_
  refine R.ev rfl (E.assign rfl) ?_
  refine R.done ?_
  refine X.keep [(4, _)] ⟨rfl, trivial⟩ ?_
  refine X.next ?_
  refine C.ret ?_
  refine X.ret1 rfl rfl ?_
  exact ⟨rfl, rfl⟩
theorem idxStr_any (l : List UInt8) (c : UInt8) (w : World) :
    Ret Tryz.prog 67 #[str l, ub c] w fun v w' => v = .int .i64 (idxL c l 0) ∧ w = w' := by
  refine Ret.enter (n := 8) (args := [str l, ub c]) Tryz.func67 rfl rfl ?_
  refine C.keep [(0, _), (1, _)] ⟨rfl, rfl, trivial⟩ ?_
  refine C.seq ?_
  refine C.region ?_
  refine R.ev rfl (E.assign rfl) ?_
  refine R.done ?_
  refine X.keep [(0, _), (1, _)] ⟨rfl, rfl, trivial⟩ ?_
  refine X.next ?_
  refine C.seq ?_
  refine C.region ?_
  refine R.ev rfl (E.move rfl) ?_
  refine R.ev rfl (E.move rfl) ?_
  refine R.call ⟨_, _, Tryz.func85, rfl, by kernel_rfl⟩ rfl rfl (idxLite_any _ _ _) ?_
  rintro _ _ ⟨rfl, rfl⟩
  refine R.ev rfl (E.assign rfl) ?_
  refine R.done ?_
  refine X.keep [(4, _)] ⟨rfl, trivial⟩ ?_
  refine X.next ?_
  refine C.ret ?_
  refine X.ret1 rfl rfl ?_
  exact ⟨rfl, rfl⟩
def pfx (l m : List UInt8) : Bool := decide (m.length ≤ l.length) && decide (l.take m.length = m)
theorem pfxLite_any (l m : List UInt8) (w : World) :
    Ret Tryz.prog 65 #[str l, str m] w fun v w' => v = .bool (pfx l m) ∧ w = w' := by
  refine Ret.enter (n := 18) (args := [str l, str m]) Tryz.func65 rfl rfl ?_
  refine C.keep [(0, _), (1, _)] ⟨rfl, rfl, trivial⟩ ?_
  refine C.seq ?_
  refine C.region ?_
  refine R.ev rfl (E.assign rfl) ?_
  refine R.done ?_
  refine X.keep [(0, _), (1, _)] ⟨rfl, rfl, trivial⟩ ?_
  refine X.next ?_
  refine C.seq ?_
  refine C.region ?_
  refine R.ev rfl (E.move rfl) ?_
  refine R.ev rfl (E.lenStr rfl Tryz.underlying9) ?_
  refine R.ev rfl (E.move rfl) ?_
  refine R.ev rfl (E.lenStr rfl Tryz.underlying9) ?_
  refine R.ev rfl (E.geq rfl rfl) ?_
  refine R.ev rfl (E.move rfl) ?_
  refine R.split 10 rfl (fun h10 => ?_) (fun h10 => ?_)
  · refine R.gyes rfl rfl ?_
    refine R.ev rfl (E.move rfl) ?_
    refine R.gyes rfl rfl ?_
    refine R.ev rfl (E.move rfl) ?_
    refine R.gyes rfl rfl ?_
    refine R.ev rfl (E.lenStr rfl Tryz.underlying9) ?_
    refine R.gyes rfl rfl ?_
    refine R.ev rfl (E.ssliceH rfl rfl Tryz.underlying9 rfl (by have := of_decide_eq_true h10; omega)) ?_
    refine R.gyes rfl rfl ?_
    refine R.ev rfl (E.move rfl) ?_
    refine R.gyes rfl rfl ?_
    refine R.ev rfl (E.seql rfl rfl) ?_
    refine R.ev rfl (E.pickT rfl rfl) ?_
    refine R.ev rfl (E.assign rfl) ?_
    refine R.done ?_
    refine X.keep [(4, _)] ⟨rfl, trivial⟩ ?_
    refine X.next ?_
    refine C.ret ?_
    refine X.ret1 rfl rfl ?_
    first
      | (have h := of_decide_eq_true h10
         exact ⟨by rw [pfx, decide_eq_true (show m.length ≤ l.length by omega), Bool.true_and], rfl⟩)
      | (have h := of_decide_eq_false h10
         exact ⟨by rw [pfx, decide_eq_false (show ¬ m.length ≤ l.length by omega), Bool.false_and], rfl⟩)
  · refine R.gskip rfl rfl rfl ?_
    refine R.gskip rfl rfl rfl ?_
    refine R.gskip rfl rfl rfl ?_
    refine R.gskip rfl rfl rfl ?_
    refine R.gskip rfl rfl rfl ?_
    refine R.gskip rfl rfl rfl ?_
    refine R.ev rfl (E.pickF rfl rfl) ?_
    refine R.ev rfl (E.assign rfl) ?_
    refine R.done ?_
    refine X.keep [(4, _)] ⟨rfl, trivial⟩ ?_
    refine X.next ?_
    refine C.ret ?_
    refine X.ret1 rfl rfl ?_
    first
      | (have h := of_decide_eq_true h10
         exact ⟨by rw [pfx, decide_eq_true (show m.length ≤ l.length by omega), Bool.true_and], rfl⟩)
      | (have h := of_decide_eq_false h10
         exact ⟨by rw [pfx, decide_eq_false (show ¬ m.length ≤ l.length by omega), Bool.false_and], rfl⟩)
theorem pfx_any (l m : List UInt8) (w : World) :
    Ret Tryz.prog 47 #[str l, str m] w fun v w' => v = .bool (pfx l m) ∧ w = w' := by
  refine Ret.enter (n := 8) (args := [str l, str m]) Tryz.func47 rfl rfl ?_
  refine C.keep [(0, _), (1, _)] ⟨rfl, rfl, trivial⟩ ?_
  refine C.seq ?_
  refine C.region ?_
  refine R.ev rfl (E.assign rfl) ?_
  refine R.done ?_
  refine X.keep [(0, _), (1, _)] ⟨rfl, rfl, trivial⟩ ?_
  refine X.next ?_
  refine C.seq ?_
  refine C.region ?_
  refine R.ev rfl (E.move rfl) ?_
  refine R.ev rfl (E.move rfl) ?_
  refine R.call ⟨_, _, Tryz.func65, rfl, by kernel_rfl⟩ rfl rfl (pfxLite_any l m w) ?_
  rintro _ _ ⟨rfl, rfl⟩
  refine R.ev rfl (E.assign rfl) ?_
  refine R.done ?_
  refine X.keep [(4, _)] ⟨rfl, trivial⟩ ?_
  refine X.next ?_
  refine C.ret ?_
  refine X.ret1 rfl rfl ?_
  exact ⟨rfl, rfl⟩
theorem idx_one {c : UInt8} {l : List UInt8} (h : [c] = l) : idxL c l 0 = 0 := by subst h; simp [idxL]
theorem idx1Lite_any (l : List UInt8) (c : UInt8) (w : World) :
    Ret Tryz.prog 101 #[str l, str [c]] w fun v w' => v = .int .i64 (idxL c l 0) ∧ w = w' := by
  refine Ret.enter (n := 143) (args := [str l, str [c]]) Tryz.func101 rfl rfl ?_
  refine C.keep [(0, _), (1, _)] ⟨rfl, rfl, trivial⟩ ?_
  refine C.seq ?_
  refine C.region ?_
  refine R.ev rfl (E.assign rfl) ?_
  refine R.done ?_
  refine X.keep [(0, _), (1, _)] ⟨rfl, rfl, trivial⟩ ?_
  refine X.next ?_
  refine C.seq ?_
  refine C.region ?_
  refine R.ev rfl (E.move rfl) ?_
  refine R.ev rfl (E.lenStr rfl Tryz.underlying9) ?_
  refine R.ev rfl (E.assign rfl) ?_
  refine R.done ?_
  refine X.keep [(0, _), (1, _), (5, _)] ⟨rfl, rfl, rfl, trivial⟩ ?_
  refine X.next ?_
  refine C.seq ?_
  refine C.block ?_
  refine C.seq ?_
  refine C.region ?_
  refine R.ev rfl (E.move rfl) ?_
  refine R.ev rfl ((E.eql rfl rfl).isF (by simp)) ?_
  refine R.ev rfl (E.move rfl) ?_
  refine R.gyes rfl rfl ?_
  refine R.ev rfl (E.move rfl) ?_
  refine R.gyes rfl rfl ?_
  refine R.ev rfl (E.move rfl) ?_
  refine R.gyes rfl rfl ?_
  refine R.ev rfl (E.seql rfl rfl) ?_
  refine R.ev rfl (E.pickF rfl rfl) ?_
  refine R.ev rfl (E.assign rfl) ?_
  refine R.done ?_
  refine X.keep [(0, _), (1, _), (5, _), (16, _)] ⟨rfl, rfl, rfl, rfl, trivial⟩ ?_
  refine X.next ?_
  refine C.cdec rfl (fun h16 => ?_) (fun h16 => ?_)
  · refine C.seq ?_
    refine C.region ?_
    refine R.ev rfl (E.assign rfl) ?_
    refine R.done ?_
    refine X.keep [(4, _)] ⟨rfl, trivial⟩ ?_
    refine X.next ?_
    refine C.ret ?_
    refine X.blockRet ?_
    refine X.thenRet ?_
    refine X.ret1 rfl rfl ?_
    exact ⟨by rw [idx_one h16], rfl⟩
  · refine C.seq ?_
    refine C.region ?_
    refine R.ev rfl (E.move rfl) ?_
    refine R.ev rfl ((E.eql rfl rfl).isT (by simp)) ?_
    refine R.ev rfl (E.assign rfl) ?_
    refine R.done ?_
    refine X.keep [(0, _), (1, _), (5, _), (24, _)] ⟨rfl, rfl, rfl, rfl, trivial⟩ ?_
    refine X.next ?_
    refine C.ctrue rfl ?_
    refine C.seq ?_
    refine C.region ?_
    refine R.ev rfl (E.move rfl) ?_
    refine R.ev rfl (E.move rfl) ?_
    refine R.ev rfl (E.sindex (i := 0) rfl rfl Tryz.underlying9 rfl (by simp)) ?_
    refine R.call ⟨_, _, Tryz.func85, rfl, by kernel_rfl⟩ rfl rfl (idxLite_any _ _ _) ?_
    rintro _ _ ⟨rfl, rfl⟩
    refine R.ev rfl (E.assign rfl) ?_
    refine R.done ?_
    refine X.keep [(4, _)] ⟨rfl, trivial⟩ ?_
    refine X.next ?_
    refine C.ret ?_
    refine X.blockRet ?_
    refine X.thenRet ?_
    refine X.ret1 rfl rfl ?_
    exact ⟨rfl, rfl⟩
theorem idx1_any (l : List UInt8) (c : UInt8) (w : World) :
    Ret Tryz.prog 83 #[str l, str [c]] w fun v w' => v = .int .i64 (idxL c l 0) ∧ w = w' := by
  refine Ret.enter (n := 8) (args := [str l, str [c]]) Tryz.func83 rfl rfl ?_
  refine C.keep [(0, _), (1, _)] ⟨rfl, rfl, trivial⟩ ?_
  refine C.seq ?_
  refine C.region ?_
  refine R.ev rfl (E.assign rfl) ?_
  refine R.done ?_
  refine X.keep [(0, _), (1, _)] ⟨rfl, rfl, trivial⟩ ?_
  refine X.next ?_
  refine C.seq ?_
  refine C.region ?_
  refine R.ev rfl (E.move rfl) ?_
  refine R.ev rfl (E.move rfl) ?_
  refine R.call ⟨_, _, Tryz.func101, rfl, by kernel_rfl⟩ rfl rfl (idx1Lite_any l c w) ?_
  rintro _ _ ⟨rfl, rfl⟩
  refine R.ev rfl (E.assign rfl) ?_
  refine R.done ?_
  refine X.keep [(4, _)] ⟨rfl, trivial⟩ ?_
  refine X.next ?_
  refine C.ret ?_
  refine X.ret1 rfl rfl ?_
  exact ⟨rfl, rfl⟩
theorem run_count1 {P : Program} (l : List UInt8) (c : UInt8) (w : World) : (Extern.BytealgCount.count #[str l, ub c]).run P w = .ok (.int .i64 ((l.count c : Nat) : Int)) w := by
  have := Lib.run_countString (P := P) ⟨⟨l⟩⟩ (c.toNat : Int) w
  rw [this]
  simp [Lib.countByte]
theorem count1_any (l : List UInt8) (c : UInt8) (w : World) :
    Ret Tryz.prog 82 #[str l, str [c]] w fun v w' => v = .int .i64 ((l.count c : Nat) : Int) ∧ w = w' := by
  refine Ret.enter (n := 34) (args := [str l, str [c]]) Tryz.func82 rfl rfl ?_
  refine C.keep [(0, _), (1, _)] ⟨rfl, rfl, trivial⟩ ?_
  refine C.seq ?_
  refine C.region ?_
  refine R.ev rfl (E.assign rfl) ?_
  refine R.done ?_
  refine X.keep [(0, _), (1, _)] ⟨rfl, rfl, trivial⟩ ?_
  refine X.next ?_
  refine C.seq ?_
  refine C.seq ?_
  refine C.region ?_
  refine R.ev rfl (E.move rfl) ?_
  refine R.ev rfl (E.lenStr rfl Tryz.underlying9) ?_
  refine R.ev rfl ((E.eql rfl rfl).isF (by simp)) ?_
  refine R.done ?_
  refine X.keep [(0, _), (1, _), (9, _)] ⟨rfl, rfl, rfl, trivial⟩ ?_
  refine X.next ?_
  refine C.cfalse rfl ?_
  refine C.skip ?_
  refine X.next ?_
  refine C.seq ?_
  refine C.seq ?_
  refine C.region ?_
  refine R.ev rfl (E.move rfl) ?_
  refine R.ev rfl (E.lenStr rfl Tryz.underlying9) ?_
  refine R.ev rfl ((E.eql rfl rfl).isT (by simp)) ?_
  refine R.done ?_
  refine X.keep [(0, _), (1, _), (15, _)] ⟨rfl, rfl, rfl, trivial⟩ ?_
  refine X.next ?_
  refine C.ctrue rfl ?_
  refine C.seq ?_
  refine C.region ?_
  refine R.ev rfl (E.move rfl) ?_
  refine R.ev rfl (E.move rfl) ?_
  refine R.ev rfl (E.sindex (i := 0) rfl rfl Tryz.underlying9 rfl (by simp)) ?_
  refine R.ev rfl (E.ext ⟨_, Tryz.func100, by kernel_rfl, by kernel_rfl, by kernel_rfl, (by kernel_rfl : Extern.find _ = some Extern.BytealgCount.count)⟩ rfl (run_count1 _ _ _)) ?_
  refine R.ev rfl (E.assign rfl) ?_
  refine R.done ?_
  refine X.keep [(4, _)] ⟨rfl, trivial⟩ ?_
  refine X.next ?_
  refine C.ret ?_
  refine X.thenRet ?_
  refine X.ret1 rfl rfl ?_
  exact ⟨rfl, rfl⟩
/-- a string cut at every c -/
def splitL (c : UInt8) : List UInt8 → List (List UInt8)
  | [] => [[]]
  | b :: l => if b = c then [] :: splitL c l else match splitL c l with
    | [] => [[b]]
    | s :: r => (b :: s) :: r
theorem splitL_len (c : UInt8) : ∀ l, (splitL c l).length = l.count c + 1
  | [] => rfl
  | b :: l => by
    have ih := splitL_len c l
    unfold splitL
    by_cases h : b = c
    · rw [if_pos h, List.length_cons, ih, h, List.count_cons_self]
    · rw [if_neg h, List.count_cons_of_ne h]
      cases hs : splitL c l with
      | nil => rw [hs] at ih; simp at ih
      | cons s r => rw [hs] at ih; simpa using ih
theorem splitL_none {c : UInt8} : ∀ {l : List UInt8}, l.count c = 0 → splitL c l = [l]
  | [], _ => rfl
  | b :: l, h => by
    have hb : b ≠ c := by intro e; rw [e, List.count_cons_self] at h; omega
    rw [List.count_cons_of_ne hb] at h
    rw [splitL, if_neg hb, splitL_none h]
theorem idxL_add (c : UInt8) : ∀ (l : List UInt8) (k : Nat), idxL c l (k + 1) = if idxL c l k < 0 then idxL c l k else idxL c l k + 1
  | [], k => by simp [idxL]
  | b :: l, k => by
    unfold idxL
    by_cases h : b = c
    · rw [if_pos h, if_pos h, if_neg (by omega)]; push_cast; rfl
    · rw [if_neg h, if_neg h]; exact idxL_add c l (k + 1)
theorem splitL_at {c : UInt8} : ∀ {l : List UInt8}, 0 < l.count c → ∃ m : Nat, idxL c l 0 = (m : Int) ∧ m < l.length ∧ splitL c l = l.take m :: splitL c (l.drop (m + 1)) ∧ (l.drop (m + 1)).count c + 1 = l.count c
  | [], h => by simp at h
  | b :: l, h => by
    by_cases hb : b = c
    · exact ⟨0, by simp [idxL, hb], by simp, by simp [splitL, hb], by simp [hb]⟩
    · rw [List.count_cons_of_ne hb] at h
      obtain ⟨m, h1, h2, h3, h4⟩ := splitL_at h
      refine ⟨m + 1, ?_, by simpa using h2, ?_, ?_⟩
      · rw [idxL, if_neg hb, idxL_add, h1, if_neg (by omega)]; push_cast; rfl
      · rw [splitL, if_neg hb, h3]; simp
      · rw [List.count_cons_of_ne hb]; simpa using h4
variable {K : Kn} {Hs Rs : List Hl} {F : Hl} {w : World}
theorem genSplit_any (l : List UInt8) (c : UInt8) (hl : l.length ≤ 1000000) (hs : Sat K w Hs) : Ret Tryz.prog 64 #[str l, str [c], .int .i64 0, .int .i64 (-1)] w fun v w' => ∃ F, RowL 9 encS 1 v (splitL c l) F ∧ Sat K w' (F :: Hs) := by
  have hcl : l.count c ≤ l.length := List.count_le_length
  refine Ret.enter (n := 66) (args := [str l, str [c], .int .i64 0, .int .i64 (-1)]) Tryz.func64 rfl rfl ?_
  refine C.keep [(0, _), (1, _), (2, _), (3, _)] ⟨rfl, rfl, rfl, rfl, trivial⟩ ?_
  refine C.seq ?_
  refine C.region ?_
  refine R.ev rfl (E.assign rfl) ?_
  refine R.done ?_
  refine X.keep [(0, _), (1, _), (2, _), (3, _)] ⟨rfl, rfl, rfl, rfl, trivial⟩ ?_
  refine X.next ?_
  refine C.seq ?_
  refine C.seq ?_
  refine C.region ?_
  refine R.ev rfl (E.move rfl) ?_
  refine R.ev rfl ((E.eql rfl rfl).isF (by decide)) ?_
  refine R.done ?_
  refine X.keep [(0, _), (1, _), (2, _), (3, _), (13, _)] ⟨rfl, rfl, rfl, rfl, rfl, trivial⟩ ?_
  refine X.next ?_
  refine C.cfalse rfl ?_
  refine C.skip ?_
  refine X.next ?_
  refine C.seq ?_
  refine C.seq ?_
  refine C.region ?_
  refine R.ev rfl (E.move rfl) ?_
  refine R.ev rfl ((E.seql rfl rfl).isF (by simp)) ?_
  refine R.done ?_
  refine X.keep [(0, _), (1, _), (2, _), (3, _), (15, _)] ⟨rfl, rfl, rfl, rfl, rfl, trivial⟩ ?_
  refine X.next ?_
  refine C.cfalse rfl ?_
  refine C.skip ?_
  refine X.next ?_
  refine C.seq ?_
  refine C.seq ?_
  refine C.region ?_
  refine R.ev rfl (E.move rfl) ?_
  refine R.ev rfl ((E.lss rfl rfl).isT (by decide)) ?_
  refine R.done ?_
  refine X.keep [(0, _), (1, _), (2, _), (3, _), (20, _)] ⟨rfl, rfl, rfl, rfl, rfl, trivial⟩ ?_
  refine X.next ?_
  refine C.ctrue rfl ?_
  refine C.region ?_
  refine R.ev rfl (E.move rfl) ?_
  refine R.ev rfl (E.move rfl) ?_
  refine R.call ⟨_, _, Tryz.func82, rfl, by kernel_rfl⟩ rfl rfl (count1_any l c _) ?_
  rintro _ _ ⟨rfl, rfl⟩
  refine R.ev rfl (E.add rfl rfl (by omega) (by omega)) ?_
  refine R.ev rfl (E.assign rfl) ?_
  refine R.done ?_
  refine X.keep [(0, _), (1, _), (2, _), (3, _)] ⟨rfl, rfl, rfl, rfl, trivial⟩ ?_
  refine X.next ?_
  refine C.seq ?_
  refine C.region ?_
  refine R.ev rfl (E.move rfl) ?_
  refine R.ev rfl (E.move rfl) ?_
  refine R.ev rfl (E.lenStr rfl Tryz.underlying9) ?_
  refine R.ev rfl (E.add rfl rfl (by omega) (by omega)) ?_
  refine R.ev rfl ((E.min2 rfl rfl).isI (c := ((l.count c + 1 : Nat) : Int)) (by omega)) ?_
  refine R.ev rfl (E.assign rfl) ?_
  refine R.done ?_
  refine X.keep [(0, _), (1, _), (2, _), (3, _)] ⟨rfl, rfl, rfl, rfl, trivial⟩ ?_
  refine X.next ?_
  refine C.seq ?_
  refine C.region ?_
  refine R.ev rfl (E.move rfl) ?_
  refine R.cmakeZ (enc := encS) ([] : List UInt8) (m := l.count c + 1) hs rfl rfl Tryz.underlying30 Tryz.by9 rfl rfl rfl rfl (by omega) (by omega) (by decide) ?_
  intro b31 w31 r31 hs
  refine R.ev rfl (E.assign rfl) ?_
  refine R.done ?_
  refine X.keep [(0, _), (1, _), (2, _), (3, _), (9, _)] ⟨rfl, rfl, rfl, rfl, rfl, trivial⟩ ?_
  refine X.next ?_
  refine C.seq ?_
  refine C.region ?_
  refine R.ev rfl (E.move rfl) ?_
  refine R.ev rfl ((E.sub rfl rfl (by omega) (by omega)).isI (c := ((l.count c : Nat) : Int)) (by omega)) ?_
  refine R.ev rfl (E.assign rfl) ?_
  refine R.done ?_
  refine X.keep [(0, _), (1, _), (2, _), (3, _), (9, _)] ⟨rfl, rfl, rfl, rfl, rfl, trivial⟩ ?_
  refine X.next ?_
  refine C.seq ?_
  refine C.region ?_
  refine R.ev rfl (E.assign rfl) ?_
  refine R.done ?_
  refine X.keep [(0, _), (1, _), (2, _), (3, _), (9, _), (10, _)] ⟨rfl, rfl, rfl, rfl, rfl, rfl, trivial⟩ ?_
  refine X.next ?_
  refine C.seq ?_
  refine C.block ?_
  refine C.loop (T := Nat × List UInt8 × List (List UInt8) × Hl) [(1, _), (2, _), (3, _), (9, _)] (fun (k, r, _) => [(0, str r), (10, .int .i64 (k : Nat))]) (fun (k, r, D, F) w' => k + r.count c = l.count c ∧ r.length ≤ l.length ∧ splitL c l = D ++ splitL c r ∧ D.length = k ∧ RowL 9 encS 1 (.slice (some ⟨b31, 0, none⟩) (l.count c + 1) (l.count c + 1)) (D ++ List.replicate (l.count c + 1 - k) []) F ∧ Sat K w' (F :: Hs)) (fun (k, _) => l.count c - k) ((0, l, [], _)) ⟨rfl, rfl, rfl, rfl, rfl, rfl, trivial⟩ ⟨by omega, by omega, rfl, rfl, r31, hs⟩ ?_
  rintro ⟨k, r, D, F1⟩ w1 ⟨hk, hrl, hsp, hD, r1, hs⟩
  refine C.keep [(0, _), (1, _), (2, _), (3, _), (9, _), (10, _)] ⟨rfl, rfl, rfl, rfl, rfl, rfl, trivial⟩ ?_
  refine C.seq ?_
  refine C.seq ?_
  refine C.region ?_
  refine R.ev rfl (E.move rfl) ?_
  refine R.ev rfl (E.move rfl) ?_
  refine R.ev rfl (E.lss rfl rfl) ?_
  refine R.done ?_
  refine X.keep [(0, _), (1, _), (2, _), (3, _), (9, _), (10, _), (36, _)] ⟨rfl, rfl, rfl, rfl, rfl, rfl, rfl, trivial⟩ ?_
  refine X.next ?_
  refine C.cdec rfl (fun h36 => ?_) (fun h36 => ?_)
  · obtain ⟨m, hm1, hm2, hm3, hm4⟩ := splitL_at (c := c) (l := r) (by omega)
    refine C.skip ?_
    refine X.next ?_
    refine C.block ?_
    refine C.seq ?_
    refine C.region ?_
    refine R.ev rfl (E.move rfl) ?_
    refine R.ev rfl (E.move rfl) ?_
    refine R.call ⟨_, _, Tryz.func83, rfl, by kernel_rfl⟩ rfl rfl (idx1_any r c _) ?_
    rintro _ _ ⟨rfl, rfl⟩
    rw [hm1]
    refine R.ev rfl (E.assign rfl) ?_
    refine R.done ?_
    refine X.keep [(0, _), (1, _), (2, _), (3, _), (9, _), (10, _), (11, _)] ⟨rfl, rfl, rfl, rfl, rfl, rfl, rfl, trivial⟩ ?_
    refine X.next ?_
    refine C.seq ?_
    refine C.seq ?_
    refine C.region ?_
    refine R.ev rfl (E.move rfl) ?_
    refine R.ev rfl ((E.lss rfl rfl).isF (by omega)) ?_
    refine R.done ?_
    refine X.keep [(0, _), (1, _), (2, _), (3, _), (9, _), (10, _), (11, _), (41, _)] ⟨rfl, rfl, rfl, rfl, rfl, rfl, rfl, rfl, trivial⟩ ?_
    refine X.next ?_
    refine C.cfalse rfl ?_
    refine C.skip ?_
    refine X.next ?_
    refine C.seq ?_
    refine C.region ?_
    refine R.ev rfl (E.move rfl) ?_
    refine R.ev rfl (E.move rfl) ?_
    refine R.ev rfl (E.move rfl) ?_
    refine R.ev rfl (E.move rfl) ?_
    refine R.ev rfl (E.move rfl) ?_
    refine R.ev rfl (E.add rfl rfl (by omega) (by omega)) ?_
    refine R.ev rfl (E.ssliceH (b := m) rfl rfl Tryz.underlying9 (by omega) (by omega)) ?_
    refine R.ev rfl (E.indexAddr rfl rfl Tryz.underlying30 Tryz.sz9 rfl (by first | omega | decide)) ?_
    refine R.ssetF (el' := r.take m) k hs r1 rfl rfl Tryz.sz9 (el := []) ?_ ?_ (off := 0) (by omega) (by decide) rfl ?_
    · rw [List.getElem?_append_right (by omega), hD, List.getElem?_replicate, if_pos (by omega)]
    · simp [encS]
    intro w14 F2 r2 hs
    refine R.done ?_
    refine X.keep [(0, _), (1, _), (2, _), (3, _), (9, _), (10, _), (11, _)] ⟨rfl, rfl, rfl, rfl, rfl, rfl, rfl, trivial⟩ ?_
    refine X.next ?_
    refine C.seq ?_
    refine C.region ?_
    refine R.ev rfl (E.move rfl) ?_
    refine R.ev rfl (E.move rfl) ?_
    refine R.ev rfl (E.move rfl) ?_
    refine R.ev rfl ((E.lenStr rfl Tryz.underlying9).isI (c := 1) (by simp)) ?_
    refine R.ev rfl (E.add rfl rfl (by omega) (by omega)) ?_
    refine R.ev rfl (E.ssliceL (a := m + 1) rfl rfl Tryz.underlying9 (by simp) (by omega)) ?_
    refine R.ev rfl (E.assign rfl) ?_
    refine R.done ?_
    refine X.keep [(0, _), (1, _), (2, _), (3, _), (9, _), (10, _)] ⟨rfl, rfl, rfl, rfl, rfl, rfl, trivial⟩ ?_
    refine X.next ?_
    refine C.region ?_
    refine R.ev rfl (E.move rfl) ?_
    refine R.ev rfl (E.add rfl rfl (by omega) (by omega)) ?_
    refine R.ev rfl (E.assign rfl) ?_
    refine R.done ?_
    refine X.keep [(0, _), (1, _), (2, _), (3, _), (9, _), (10, _)] ⟨rfl, rfl, rfl, rfl, rfl, rfl, trivial⟩ ?_
    refine X.blockNormal ?_
    have e1 : (D ++ List.replicate (l.count c + 1 - k) []).set k (r.take m) = (D ++ [r.take m]) ++ List.replicate (l.count c + 1 - (k + 1)) [] := by
      rw [List.set_append_right _ _ (by omega), hD, Nat.sub_self, show l.count c + 1 - k = (l.count c + 1 - (k + 1)) + 1 by omega, List.replicate_succ]
      simp
    exact X.again (k + 1, r.drop (m + 1), D ++ [r.take m], F2) ⟨rfl, rfl, rfl, rfl, rfl, rfl, trivial⟩ ⟨by omega, by rw [List.length_drop]; omega, by rw [hsp, hm3]; simp, by simp [hD], by rw [← e1]; exact r2, hs⟩ (by show _ - _ < _ - _; omega)
  · refine C.exit ?_
    refine X.thenExit ?_
    refine X.loopExit ?_
    refine X.blockExit ?_
    refine X.next ?_
    refine C.seq ?_
    refine C.region ?_
    have hke : k = l.count c := by omega
    have hr0 : r.count c = 0 := by omega
    refine R.ev rfl (E.move rfl) ?_
    refine R.ev rfl (E.move rfl) ?_
    refine R.ev rfl (E.move rfl) ?_
    refine R.ev rfl (E.indexAddr rfl rfl Tryz.underlying30 Tryz.sz9 rfl (by first | omega | decide)) ?_
    refine R.ssetF (el' := r) k hs r1 rfl rfl Tryz.sz9 (el := []) ?_ ?_ (off := 0) (by omega) (by decide) rfl ?_
    · rw [List.getElem?_append_right (by omega), hD, List.getElem?_replicate, if_pos (by omega)]
    · simp [encS]
    intro w17 F2 r2 hs
    have e1 : (D ++ List.replicate (l.count c + 1 - k) []).set k r = splitL c l := by
      rw [hsp, splitL_none hr0, List.set_append_right _ _ (by omega), hD, Nat.sub_self, show l.count c + 1 - k = 1 by omega]
      rfl
    rw [e1] at r2
    refine R.done ?_
    refine X.keep [(9, _), (10, _)] ⟨rfl, rfl, trivial⟩ ?_
    refine X.next ?_
    refine C.seq ?_
    refine C.region ?_
    refine R.ev rfl (E.move rfl) ?_
    refine R.ev rfl (E.move rfl) ?_
    refine R.ev rfl (E.add rfl rfl (by omega) (by omega)) ?_
    refine R.ev rfl (E.sliceH (b := l.count c + 1) rfl rfl Tryz.underlying30 Tryz.sz9 (by omega) (by omega)) ?_
    refine R.ev rfl (E.assign rfl) ?_
    refine R.done ?_
    refine X.keep [(8, _)] ⟨rfl, trivial⟩ ?_
    refine X.next ?_
    refine C.ret ?_
    refine X.ret1 rfl rfl ?_
    exact ⟨F2, r2, hs⟩
theorem split_any (l : List UInt8) (c : UInt8) (hl : l.length ≤ 1000000) (hs : Sat K w Hs) : Ret Tryz.prog 46 #[str l, str [c]] w fun v w' => ∃ F, RowL 9 encS 1 v (splitL c l) F ∧ Sat K w' (F :: Hs) := by
  refine Ret.enter (n := 8) (args := [str l, str [c]]) Tryz.func46 rfl rfl ?_
  refine C.keep [(0, _), (1, _)] ⟨rfl, rfl, trivial⟩ ?_
  refine C.seq ?_
  refine C.region ?_
  refine R.ev rfl (E.assign rfl) ?_
  refine R.done ?_
  refine X.keep [(0, _), (1, _)] ⟨rfl, rfl, trivial⟩ ?_
  refine X.next ?_
  refine C.seq ?_
  refine C.region ?_
  refine R.ev rfl (E.move rfl) ?_
  refine R.ev rfl (E.move rfl) ?_
  refine R.call ⟨_, _, Tryz.func64, rfl, by kernel_rfl⟩ rfl rfl (genSplit_any l c hl hs) ?_
  rintro v7 w7 ⟨F7, r7, hs⟩
  refine R.ev rfl (E.assign rfl) ?_
  refine R.done ?_
  refine X.keep [(4, _)] ⟨rfl, trivial⟩ ?_
  refine X.next ?_
  refine C.ret ?_
  refine X.ret1 rfl rfl ?_
  exact ⟨F7, r7, hs⟩
end Go.Proofs.YtifghjeapfijkaaGreatDoor
