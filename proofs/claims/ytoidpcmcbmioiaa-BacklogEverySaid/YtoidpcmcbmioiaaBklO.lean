/-
  package bulletinlaw38: the operations, the example of the document.
-/
import Derived.Test.YtoidpcmcbmioiaaBklM
import Derived.Test.YtoidpcmcbmioiaaArg
namespace Go.Proofs.Ytoidpcmcbmioiaa
open Go.Eng Go.RowKit

/-- an operation; ids: what its slice holds -/
structure Op38 where
  kind : Int
  id : Vec 32
  now : Int
  most : Int
  ad : Option Addr
  n : Nat
  c : Nat
  ids : List (Vec 32)
@[reducible] def Op38.sl (o : Op38) : Value := .slice o.ad o.n o.c
def encP (o : Op38) : List Value := .int .i64 o.kind :: (o.id.1.map ub ++ [.int .i64 o.now, .int .i64 o.most, o.sl])
instance {o : Op38} : CellOf (encP o) 0 (.int .i64 o.kind) := ⟨rfl⟩
instance {o : Op38} : CellOf (encP o) 33 (.int .i64 o.now) := ⟨by simp [encP, o.id.2]⟩
instance {o : Op38} : CellOf (encP o) 34 (.int .i64 o.most) := ⟨by simp [encP, o.id.2]⟩
instance {o : Op38} : CellOf (encP o) 35 o.sl := ⟨by simp [encP, o.id.2]⟩
instance {o : Op38} : PartOf (encP o) 1 32 (o.id.1.map ub) := PartOf.mk' (c1 := [.int .i64 o.kind]) rfl rfl (encV_len _)
instance : Enc encP 36 := ⟨fun o => by simp [encP, o.id.2], fun o u hu => by
  simp only [encP, List.mem_append, List.mem_cons, List.not_mem_nil, or_false] at hu
  rcases hu with rfl | hu | rfl | rfl | rfl
  · rfl
  · exact ub_all _ u hu
  · rfl
  · rfl
  · rfl⟩
def OpOk (K : Kn) (o : Op38) : Prop := KRow encV 32 K o.sl o.ids ∧ o.ids.length = o.n
theorem OpOk.mono {K K' : Kn} {o : Op38} (h : OpOk K o) (k : KLe K K') : OpOk K' o := ⟨have := h.1; inferInstance, h.2⟩
theorem list36 {x : List Value} (h : x.length = 36) : ∃ a l b c d, x = a :: (l ++ [b, c, d]) ∧ l.length = 32 := by
  match x, h with
  | a :: r, h =>
    have hr : r.length = 35 := by simpa using h
    refine ⟨a, r.take 32, r[32], r[33], r[34], ?_, by simp [hr]⟩
    congr 1
    have := List.take_append_drop 32 r
    rw [List.drop_eq_getElem_cons (by omega), List.drop_eq_getElem_cons (by omega), List.drop_eq_getElem_cons (by omega), List.drop_eq_nil_of_le (by omega)] at this
    exact this.symm
theorem fit_op {w : World} (n : Nat) (x : List Value) (hx : x.length = 36) (h : Fit Try.prog w n 33 x) : ∃ y, x = encP y ∧ OpOk (Kn.of w) y := by
  obtain ⟨n', _, hf⟩ := fit_struct h Try.underlying33
  obtain ⟨a, l, b, c, d, rfl, hl⟩ := list36 hx
  have f0 : Fit Try.prog w n' 3 (((a :: (l ++ [b, c, d])).drop 0).take (Try.prog.cellsOf 3)) := hf 0 _ rfl
  have f1 : Fit Try.prog w n' 29 (((a :: (l ++ [b, c, d])).drop 1).take (Try.prog.cellsOf 29)) := hf 1 _ rfl
  have f2 : Fit Try.prog w n' 3 (((a :: (l ++ [b, c, d])).drop 33).take (Try.prog.cellsOf 3)) := hf 2 _ rfl
  have f3 : Fit Try.prog w n' 3 (((a :: (l ++ [b, c, d])).drop 34).take (Try.prog.cellsOf 3)) := hf 3 _ rfl
  have f4 : Fit Try.prog w n' 31 (((a :: (l ++ [b, c, d])).drop 35).take (Try.prog.cellsOf 31)) := hf 4 _ rfl
  have c0 : Try.prog.cellsOf 3 = 1 := by kernel_rfl
  have c1 : Try.prog.cellsOf 29 = 32 := by kernel_rfl
  have c2 : Try.prog.cellsOf 31 = 1 := by kernel_rfl
  have c3 : Try.prog.cellsOf 5 = 1 := by kernel_rfl
  simp only [c0, c1, c2] at f0 f1 f2 f3 f4
  simp only [List.drop_zero, List.take_succ_cons, List.take_zero] at f0
  have e1 : ((a :: (l ++ [b, c, d])).drop 1).take 32 = l := by simp [← hl]
  have e2 : ((a :: (l ++ [b, c, d])).drop 33).take 1 = [b] := by simp [← hl]
  have e3 : ((a :: (l ++ [b, c, d])).drop 34).take 1 = [c] := by
    rw [show 34 = 1 + l.length + 1 by omega, ← List.drop_drop, ← List.drop_drop]; simp
  have e4 : ((a :: (l ++ [b, c, d])).drop 35).take 1 = [d] := by
    rw [show 35 = 1 + l.length + 2 by omega, ← List.drop_drop, ← List.drop_drop]; simp
  rw [e1] at f1
  rw [e2] at f2
  rw [e3] at f3
  rw [e4] at f4
  obtain ⟨k, hk, _⟩ := fit_int f0 Try.underlying3
  obtain ⟨i, hi, rfl⟩ := fit_bytes (m := 32) f1 Try.underlying29 Try.underlying5 c3 c1
  obtain ⟨n1, hn1, _⟩ := fit_int f2 Try.underlying3
  obtain ⟨n2, hn2, _⟩ := fit_int f3 Try.underlying3
  obtain ⟨ad, cp, L, hd, _, _, hkr⟩ := argv_slK (enc := encV) (sz := 32) (fit_argv f4 Try.underlying31) Try.underlying31 c1 (by decide) (fit_vec Try.underlying29 Try.underlying5 c3 c1)
  simp only [List.cons.injEq, and_true] at hk hn1 hn2
  subst hk hn1 hn2 hd
  exact ⟨⟨k, ⟨i, hi⟩, n1, n2, ad, L.length, cp, L⟩, rfl, hkr, rfl⟩
theorem argv_ops {w : World} {v : Value} (h : ArgV Try.prog w 22 v) : ∃ ad cap ops, v = .slice ad ops.length cap ∧ ops.length ≤ cap ∧ cap ≤ maxLen ∧ KRow encP 36 (Kn.of w) v ops ∧ ∀ o ∈ ops, OpOk (Kn.of w) o :=
  argv_slP h Try.underlying22 (by kernel_rfl) (by decide) fit_op

variable {K : Kn} {Hs Rs : List Hl} {F : Hl} {w : World} {p : Nat} {s : Bk}
def smallB (ops : List Op38) : Bool := ops.all (fun o => decide (o.n ≤ 20)) && decide (ops.length ≤ 40)
theorem small_any {ad : Option Addr} {cap : Nat} {ops : List Op38} (hs : Sat K w Hs) [hr : KRow encP 36 K (.slice ad ops.length cap) ops] (hL : ops.length ≤ 9223372036854775807) : Ret Try.prog 13 #[.slice ad ops.length cap] w fun r w' => r = .bool (smallB ops) ∧ Sat K w' Hs := by
  refine Ret.enter (n := 20) (args := [.slice ad ops.length cap]) Try.func13 rfl rfl ?_
  refine C.keep [(0, _)] ⟨rfl, trivial⟩ ?_
  refine C.seq ?_
  refine C.region ?_
  refine R.ev rfl (E.assign rfl) ?_
  refine R.done ?_
  refine X.keep [(0, _)] ⟨rfl, trivial⟩ ?_
  refine X.next ?_
  refine C.seq ?_
  refine C.seq ?_
  refine C.region ?_
  refine R.ev rfl (E.assign rfl) ?_
  refine R.done ?_
  refine X.keep [(0, _), (3, _)] ⟨rfl, rfl, trivial⟩ ?_
  refine X.next ?_
  refine C.block ?_
  refine C.loop  [(0, _)] (fun k => [(3, .int .i64 (k : Nat))]) (fun k w' => k ≤ ops.length ∧ Sat K w' Hs ∧ ∀ o ∈ ops.take k, o.n ≤ 20) (fun k => ops.length - k) (0) ⟨rfl, rfl, trivial⟩ ⟨Nat.zero_le _, hs, by simp⟩ ?_
  rintro k w1 ⟨hk, hs, hall⟩
  refine C.keep [(0, _), (3, _)] ⟨rfl, rfl, trivial⟩ ?_
  refine C.seq ?_
  refine C.seq ?_
  refine C.region ?_
  refine R.ev rfl (E.move rfl) ?_
  refine R.ev rfl (E.move rfl) ?_
  refine R.ev rfl (E.lenSl rfl Try.underlying22) ?_
  refine R.ev rfl (E.lss rfl rfl) ?_
  refine R.done ?_
  refine X.keep [(0, _), (3, _), (7, _)] ⟨rfl, rfl, rfl, trivial⟩ ?_
  refine X.next ?_
  refine C.cdec rfl (fun h7 => ?_) (fun h7 => ?_)
  · obtain ⟨y, bk_y, of_y, hy, my, ly, rfl, Ay⟩ := hs.el (i := k) (ad := ad) (n := ops.length) (c := cap) (by omega)
    have ay := Ay _ hs
    refine C.skip ?_
    refine X.next ?_
    refine C.seq ?_
    refine C.block ?_
    refine C.seq ?_
    refine C.region ?_
    refine R.ev rfl (E.move rfl) ?_
    refine R.ev rfl (E.move rfl) ?_
    refine R.ev rfl (E.indexAddr rfl rfl Try.underlying22 Try.sz33 rfl (by first | omega | decide)) ?_
    first | refine R.ev rfl (E.fieldAddr0 35 rfl Try.underlying33 rfl Try.sz31 rfl) ?_ | refine R.ev rfl (E.fieldAddrN 35 rfl Try.underlying33 rfl Try.sz31 rfl) ?_
    refine R.ev rfl (E.load1 rfl Try.underlying31 rfl (by first | exact hs.ldc | exact hs.ld rfl | exact hs.ld (by assumption) | exact by assumption | exact At.cellC (by assumption))) ?_
    refine R.ev rfl (E.lenSl rfl Try.underlying31) ?_
    refine R.ev rfl (E.gtr rfl rfl) ?_
    refine R.done ?_
    refine X.keep [(0, _), (3, _), (16, _)] ⟨rfl, rfl, rfl, trivial⟩ ?_
    refine X.next ?_
    refine C.cdec rfl (fun h16 => ?_) (fun h16 => ?_)
    · refine C.seq ?_
      refine C.region ?_
      refine R.ev rfl (E.assign rfl) ?_
      refine R.done ?_
      refine X.keep [(2, _)] ⟨rfl, trivial⟩ ?_
      refine X.next ?_
      refine C.ret ?_
      refine X.blockRet ?_
      refine X.thenRet ?_
      refine X.loopRet ?_
      refine X.blockRet ?_
      refine X.thenRet ?_
      refine X.ret1 rfl rfl ?_
      exact ⟨by rw [smallB, (by rw [List.all_eq_false]; exact ⟨y, my, by simp; omega⟩ : ops.all (fun o => decide (o.n ≤ 20)) = false)]; rfl, hs⟩
    · refine C.skip ?_
      refine X.blockNormal ?_
      refine X.next ?_
      refine C.region ?_
      refine R.ev rfl (E.move rfl) ?_
      refine R.ev rfl (E.add rfl rfl (by omega) (by omega)) ?_
      refine R.ev rfl (E.assign rfl) ?_
      refine R.done ?_
      refine X.keep [(0, _), (3, _)] ⟨rfl, rfl, trivial⟩ ?_
      exact X.again (k + 1) ⟨rfl, rfl, trivial⟩ ⟨by omega, hs, by rw [take_snoc hy]; intro o ho; rcases List.mem_append.1 ho with ho | ho; exact hall o ho; simp at ho; subst ho; omega⟩ (by omega)
  · refine C.exit ?_
    refine X.thenExit ?_
    refine X.loopExit ?_
    refine X.blockExit ?_
    refine X.next ?_
    refine C.seq ?_
    refine C.region ?_
    refine R.ev rfl (E.move rfl) ?_
    refine R.ev rfl (E.lenSl rfl Try.underlying22) ?_
    refine R.ev rfl (E.leq rfl rfl) ?_
    refine R.ev rfl (E.assign rfl) ?_
    refine R.done ?_
    refine X.keep [(2, _)] ⟨rfl, trivial⟩ ?_
    refine X.next ?_
    refine C.ret ?_
    refine X.ret1 rfl rfl ?_
    have e : k = ops.length := by omega
    rw [e, List.take_length] at hall
    have ha : ops.all (fun o => decide (o.n ≤ 20)) = true := by rw [List.all_eq_true]; intro o ho; simpa using hall o ho
    exact ⟨by rw [smallB, ha, Bool.true_and]; congr 1; rw [decide_eq_decide]; omega, hs⟩
def vid (b : UInt8) : Vec 32 := ⟨b :: List.replicate 31 0, rfl⟩
abbrev n1 : Ent := ⟨vid 1, 10, 0⟩
abbrev n2 : Ent := ⟨vid 2, 10, 0⟩
theorem known_any (hs : Sat K w Hs) : Ret Try.prog 12 #[] w fun v w' => v = .bool true ∧ Sat K w' Hs := by
  refine Ret.enter (n := 59) (args := []) Try.func12 rfl rfl ?_
  refine C.keep [] trivial ?_
  refine C.seq ?_
  refine C.region ?_
  refine R.ev rfl (E.assign rfl) ?_
  refine R.done ?_
  refine X.keep [] trivial ?_
  refine X.next ?_
  refine C.seq ?_
  refine C.region ?_
  refine R.call ⟨_, _, Try.func14, rfl, by kernel_rfl⟩ rfl rfl (new_any 2 5 hs) ?_
  rintro _ w1 (⟨h, _⟩ | ⟨_, p, F, rfl, hw, hs⟩)
  · exact absurd h (by decide)
  refine R.ev rfl (E.move rfl) ?_
  refine R.ev rfl (E.extract rfl rfl) ?_
  refine R.ev rfl (E.extract rfl rfl) ?_
  refine R.ev rfl (E.assign rfl) ?_
  refine R.ev rfl (E.assign rfl) ?_
  refine R.done ?_
  refine X.keep [(1, _), (2, _)] ⟨rfl, rfl, trivial⟩ ?_
  refine X.next ?_
  refine C.seq ?_
  refine C.seq ?_
  refine C.region ?_
  refine R.ev rfl (E.move rfl) ?_
  refine R.ev rfl ((E.neq rfl rfl).isF (by decide)) ?_
  refine R.ev rfl (E.move rfl) ?_
  refine R.gyes rfl rfl ?_
  refine R.ev rfl (E.move rfl) ?_
  refine R.gyes rfl rfl ?_
  refine R.ev rfl (E.eqlNilF rfl rfl Try.underlying25) ?_
  refine R.ev rfl (E.pickF rfl rfl) ?_
  refine R.ev rfl (E.move rfl) ?_
  refine R.gyes rfl rfl ?_
  refine R.ev rfl (E.move rfl) ?_
  refine R.gyes rfl rfl ?_
  refine R.ev rfl ((E.buildA rfl Try.underlying30 Try.zr30 Try.sz5 rfl).as (u := .agg (encV (vid 1)).toArray) (by rfl)) ?_
  refine R.gyes rfl rfl ?_
  refine R.call ⟨_, _, Try.func15, rfl, by kernel_rfl⟩ rfl rfl (add_any (vid 1) 10 (hs.front (F := F)) (by decide)) ?_
  rintro _ w9 ⟨rfl, F9, hw9, hs1⟩
  have hs := hs.back (F := F) hs1
  have hw9 : BkL p ⟨2, 5, false, [n1], []⟩ F9 := hw9
  refine R.gyes rfl rfl ?_
  refine R.ev rfl ((E.neq rfl rfl).isF (by decide)) ?_
  refine R.ev rfl (E.pickF rfl rfl) ?_
  refine R.ev rfl (E.move rfl) ?_
  refine R.gyes rfl rfl ?_
  refine R.ev rfl (E.move rfl) ?_
  refine R.gyes rfl rfl ?_
  refine R.ev rfl ((E.buildA rfl Try.underlying30 Try.zr30 Try.sz5 rfl).as (u := .agg (encV (vid 2)).toArray) (by rfl)) ?_
  refine R.gyes rfl rfl ?_
  refine R.call ⟨_, _, Try.func15, rfl, by kernel_rfl⟩ rfl rfl (add_any (vid 2) 10 (hs.front (F := F9)) (by decide)) ?_
  rintro _ w15 ⟨rfl, F15, hw15, hs1⟩
  have hs := hs.back (F := F9) hs1
  have hw15 : BkL p ⟨2, 5, false, [n1, n2], []⟩ F15 := hw15
  refine R.gyes rfl rfl ?_
  refine R.ev rfl ((E.neq rfl rfl).isF (by decide)) ?_
  refine R.ev rfl (E.pickF rfl rfl) ?_
  refine R.ev rfl (E.move rfl) ?_
  refine R.gyes rfl rfl ?_
  refine R.ev rfl (E.move rfl) ?_
  refine R.gyes rfl rfl ?_
  refine R.ev rfl ((E.buildA rfl Try.underlying30 Try.zr30 Try.sz5 rfl).as (u := .agg (encV (vid 1)).toArray) (by rfl)) ?_
  refine R.gyes rfl rfl ?_
  refine R.call ⟨_, _, Try.func20, rfl, by kernel_rfl⟩ rfl rfl (offered_any (vid 1) (hs.front (F := F15))) ?_
  rintro _ w21 ⟨rfl, F21, hw21, hs1⟩
  have hs := hs.back (F := F15) hs1
  have hw21 : BkL p ⟨2, 5, false, [n1, n2], [(vid 1, true)]⟩ F21 := hw21
  refine R.gyes rfl rfl ?_
  refine R.ev rfl ((E.neq rfl rfl).isF (by decide)) ?_
  refine R.ev rfl (E.pickF rfl rfl) ?_
  refine R.ev rfl (E.move rfl) ?_
  refine R.gyes rfl rfl ?_
  refine R.ev rfl (E.move rfl) ?_
  refine R.gyes rfl rfl ?_
  refine R.ev rfl ((E.buildA rfl Try.underlying30 Try.zr30 Try.sz5 rfl).as (u := .agg (encV (vid 1)).toArray) (by rfl)) ?_
  refine R.gyes rfl rfl ?_
  refine R.call ⟨_, _, Try.func22, rfl, by kernel_rfl⟩ rfl rfl (later_any (vid 1) 12 (hs.front (F := F21)) (by decide) (by decide) (by decide)) ?_
  rintro _ w27 ⟨rfl, F27, hw27, hs1⟩
  have hs := hs.back (F := F21) hs1
  have hw27 : BkL p ⟨2, 5, false, [n2, ⟨vid 1, 17, 1⟩], []⟩ F27 := hw27
  refine R.gyes rfl rfl ?_
  refine R.ev rfl ((E.neq rfl rfl).isF (by decide)) ?_
  refine R.ev rfl (E.pickF rfl rfl) ?_
  refine R.done ?_
  refine X.keep [(1, _), (37, _)] ⟨rfl, rfl, trivial⟩ ?_
  refine X.next ?_
  refine C.cfalse rfl ?_
  refine C.skip ?_
  refine X.next ?_
  refine C.seq ?_
  refine C.region ?_
  refine R.ev rfl (E.move rfl) ?_
  refine R.call ⟨_, _, Try.func33, rfl, by kernel_rfl⟩ rfl rfl (all_any hs (by decide)) ?_
  rintro v4 w4 ⟨F4, r4, hs⟩
  obtain ⟨ad4, cap4, rfl, hc4, _⟩ := r4.val
  obtain ⟨y, bk_y, of_y, hy, my, ly, rfl, Ay⟩ := hs.el (i := 0) (ad := ad4) (n := 2) (c := cap4) ((by decide))
  have ay := Ay _ hs
  obtain rfl : n2 = y := by simpa using hy
  have Az := hs.elAt (b := bk_y) (off := of_y) (n := 2) (i := 1) cap4 (y := ⟨vid 1, 17, 1⟩) rfl
  refine R.ev rfl (E.assign rfl) ?_
  refine R.done ?_
  refine X.keep [(3, _)] ⟨rfl, trivial⟩ ?_
  refine X.next ?_
  refine C.seq ?_
  refine C.region ?_
  refine R.ev rfl (E.move rfl) ?_
  refine R.ev rfl (E.lenSl rfl Try.underlying63) ?_
  refine R.ev rfl ((E.eql rfl rfl).isT (by decide)) ?_
  refine R.ev rfl (E.move rfl) ?_
  refine R.gyes rfl rfl ?_
  refine R.ev rfl (E.move rfl) ?_
  refine R.gyes rfl rfl ?_
  refine R.ev rfl (E.indexAddr (i := 0) rfl rfl Try.underlying63 Try.sz67 rfl (by decide)) ?_
  refine R.gyes rfl rfl ?_
  first | refine R.ev rfl (E.fieldAddr0 0 rfl Try.underlying67 rfl Try.sz30 rfl) ?_ | refine R.ev rfl (E.fieldAddrN 0 rfl Try.underlying67 rfl Try.sz30 rfl) ?_
  refine R.gyes rfl rfl ?_
  have ay' : At _ bk_y (of_y + 0 * 34) (encE n2) := Ay _ hs
  refine R.ev rfl (E.loadRowC rfl Try.underlying30 rfl Try.sz30 (by first | exact ⟨hs.ldA, by first | rfl | assumption | exact encV_len _ | exact Enc.len _ | exact len_ub (by assumption)⟩ | exact ⟨hs.ldP rfl, by first | rfl | assumption | exact encV_len _ | exact Enc.len _ | exact len_ub (by assumption)⟩ | exact ⟨hs.ldM rfl rfl, by first | rfl | assumption | exact encV_len _ | exact Enc.len _ | exact len_ub (by assumption)⟩ | exact ⟨hs.ldM (by assumption) (by first | rfl | assumption), by first | rfl | assumption | exact encV_len _ | exact Enc.len _ | exact len_ub (by assumption)⟩ | exact ⟨by assumption, by first | rfl | assumption | exact encV_len _ | exact Enc.len _ | exact len_ub (by assumption)⟩ | exact hs.ldp | exact At.partC (by assumption))) ?_
  refine R.gyes rfl rfl ?_
  refine R.ev rfl ((E.buildA rfl Try.underlying30 Try.zr30 Try.sz5 rfl).as (u := .agg (encV (vid 2)).toArray) (by rfl)) ?_
  refine R.gyes rfl rfl ?_
  first | refine R.ev rfl ((E.eqV 10 rfl rfl Try.lv30 rfl Try.underlying30 rfl Try.gd30).isT (by decide)) ?_ | refine R.ev rfl ((E.eqId 10 32 rfl rfl Try.lv30 rfl Try.underlying30 rfl Try.gd30 (by assumption) (by assumption)).isT (by decide)) ?_
  refine R.ev rfl (E.pickT rfl rfl) ?_
  refine R.ev rfl (E.move rfl) ?_
  refine R.gyes rfl rfl ?_
  refine R.ev rfl (E.move rfl) ?_
  refine R.gyes rfl rfl ?_
  refine R.ev rfl (E.indexAddr (i := 1) rfl rfl Try.underlying63 Try.sz67 rfl (by decide)) ?_
  refine R.gyes rfl rfl ?_
  have az' := Az _ hs
  refine R.ev rfl (E.loadRowC rfl Try.underlying67 rfl Try.sz67 (by first | exact ⟨hs.ldA, by first | rfl | assumption | exact encV_len _ | exact Enc.len _ | exact len_ub (by assumption)⟩ | exact ⟨hs.ldP rfl, by first | rfl | assumption | exact encV_len _ | exact Enc.len _ | exact len_ub (by assumption)⟩ | exact ⟨hs.ldM rfl rfl, by first | rfl | assumption | exact encV_len _ | exact Enc.len _ | exact len_ub (by assumption)⟩ | exact ⟨hs.ldM (by assumption) (by first | rfl | assumption), by first | rfl | assumption | exact encV_len _ | exact Enc.len _ | exact len_ub (by assumption)⟩ | exact ⟨by assumption, by first | rfl | assumption | exact encV_len _ | exact Enc.len _ | exact len_ub (by assumption)⟩ | exact hs.ldp | exact At.partC (by assumption))) ?_
  refine R.gyes rfl rfl ?_
  refine R.ev rfl ((E.buildA rfl Try.underlying30 Try.zr30 Try.sz5 rfl).as (u := .agg (encV (vid 1)).toArray) (by rfl)) ?_
  refine R.gyes rfl rfl ?_
  refine R.ev rfl (E.buildG (r := encE ⟨vid 1, 17, 1⟩) rfl Try.underlying67 Try.zr67 Try.ql67 (by kernel_rfl) (by kernel_rfl) ⟨⟨_, rfl, by first | rfl | exact vsz _ | simp [Value.cells, *]⟩, ⟨_, rfl, by first | rfl | exact vsz _ | simp [Value.cells, *]⟩, ⟨_, rfl, by first | rfl | exact vsz _ | simp [Value.cells, *]⟩, trivial⟩ (by first | rfl | simp [setF, fieldsOf, Value.cells])) ?_
  refine R.gyes rfl rfl ?_
  refine R.ev rfl ((E.eqlAgg 10 rfl rfl Try.lv67 rfl Try.underlying67 rfl Try.gd67 (encE_fits _ (Enc.len _)) (encE_fits _ (Enc.len _))).isB (c := true) (by rw [encE_eq (Enc.len _) (Enc.len _)]; simp)) ?_
  refine R.ev rfl (E.pickT rfl rfl) ?_
  refine R.ev rfl (E.assign rfl) ?_
  refine R.done ?_
  refine X.keep [(0, _)] ⟨rfl, trivial⟩ ?_
  refine X.next ?_
  refine C.ret ?_
  refine X.ret1 rfl rfl ?_
  exact ⟨rfl, hs.to⟩
end Go.Proofs.Ytoidpcmcbmioiaa
