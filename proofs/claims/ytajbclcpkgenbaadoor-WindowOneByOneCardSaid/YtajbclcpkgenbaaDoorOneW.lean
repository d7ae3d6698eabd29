/-
  WindowOneByOne: slices of numbers, the answers of an offer.
-/
import Derived.Test.YtajbclcpkgenbaaDoorOne
import Derived.Test.YtajbclcpkgenbaaDoorArg
import Derived.Deep.OwnRows
import Derived.Laws.OwnMore
namespace Go.Eng
open Go.RowKit Go.Proofs.YtajbclcpkgenbaaDoor
section ops
variable {P : Program} {Q : Post} {n : Nat} {g : Env} {w : World} {ty : TypeId} {pos : String} {af : Array Edge} {ops : Array Oper} {rest : List Oper} {d : Nat}
variable {t : TypeId} {x y : Operand} {K : Kn} {Hs : List Hl} {e : TypeId}
/-- make([]int, m) -/
theorem R.makeZ {m by_ : Nat} {k1 k2 : IntKind} (hs : Sat K w Hs) (hx : look g x = some (.int k1 (m : Nat))) (hy : look g y = some (.int k2 (m : Nat))) (hu : P.underlying t = some (.slice e)) (hi : byOf P e = some (.int .i64 0, 1, by_)) (hd : Nat.blt d n = true) (hb1 : m ≤ 9223372036854775807) (hb2 : by_ * m ≤ 281474976710656)
    (cont : ∀ b w' F', RowL e encN 1 (.slice (some ⟨b, 0, none⟩) m m) (List.replicate m 0) F' → Sat K w' (F' :: Hs) → R P ops Q rest n ((d, .slice (some ⟨b, 0, none⟩) m m) :: g) w') :
    R P ops Q (⟨some d, .makeSlice t x y, ty, pos, af, none⟩ :: rest) n g w := by
  obtain ⟨i, hi, hz0, hz1, hz2⟩ := byOf_parts hi
  have hr := run_make_row (P := P) t e i (.int .i64 0) hu hi hz0 hz1 rfl k1 k2 m (by rw [hz2]; exact hb2) hb1 w
  have hce : (madeCells #[Value.int .i64 0] m) = (List.replicate m (Value.int .i64 0)).toArray := by
    rw [← toList_madeCells_one]
  rw [hce] at hr
  have hn := New.ofAlloc w e (List.replicate m (Value.int .i64 0))
  have hfl : (List.replicate m 0).flatMap encN = List.replicate m (Value.int .i64 0) := by
    clear hr hce hn hb2 hb1 hy hx cont
    induction m with
    | zero => rfl
    | succ m ih => rw [List.replicate_succ, List.flatMap_cons, ih]; rfl
  refine R.ac (w' := w.alloc (.cells (List.replicate m (Value.int .i64 0)).toArray e)) (v := .slice (some ⟨w.heap.size, 0, none⟩) m m) hd (fun a f => ?_) (cont w.heap.size _ (row w.heap.size e (List.replicate m (Value.int .i64 0))) ⟨⟨by rw [hfl]; simp, .inr ⟨w.heap.size, m, [], by simp, by rw [hfl]; simp, by simp, by unfold maxLen; omega, by rw [hfl]; simp⟩⟩, fun y _ => rfl⟩ (hs.new hn))
  simp [execOp, f.eval hx, f.eval hy, hr]
/-- []int{..} -/
theorem R.buildI {m : Nat} {zv : Value} {parts : List (Nat × Operand)} (L : List Int) (hs : Sat K w Hs) (hm : parts.length = m + 1) (hv : lookAll g (parts.map (·.2)) = some (L.map fun i => Value.int .i64 i)) (hL : L.length = m + 1) (hp : parts.map (·.1) = List.range parts.length) (hu : P.underlying t = some (.slice e)) (hz : szOf P e = some 1) (hzr : zeroOf P e = some zv)
    (hd : Nat.blt d n = true) (hb : m + 1 ≤ 16777216) (cont : ∀ b w' F', RowL e encI 1 (.slice (some ⟨b, 0, none⟩) (m + 1) (m + 1)) L F' → Sat K w' (F' :: Hs) → R P ops Q rest n ((d, .slice (some ⟨b, 0, none⟩) (m + 1) (m + 1)) :: g) w') :
    R P ops Q (⟨some d, .buildSlice t (m + 1) parts.toArray, ty, pos, af, none⟩ :: rest) n g w := by
  have hfl : ∀ L : List Int, L.flatMap encI = L.map fun i => Value.int .i64 i := by
    intro L
    induction L with
    | nil => rfl
    | cons a L ih => rw [List.flatMap_cons, ih]; rfl
  refine R.buildSlice1 hm hv hp hu hz hzr hd (fun v hv => by obtain ⟨i, _, rfl⟩ := List.mem_map.1 hv; rfl) hb ?_
  intro b w' hn
  exact cont b w' (row b e (L.map fun i => Value.int .i64 i)) ⟨⟨by rw [hfl]; simp, .inr ⟨b, m + 1, [], by rw [hL], by rw [hfl]; simp, by omega, by unfold maxLen; omega, by rw [hfl]; simp [hL]⟩⟩, fun y _ => rfl⟩ (hs.new hn)
end ops
end Go.Eng
namespace Go.Proofs.YtajbclcpkgenbaaDoor
open Go.Eng Go.RowKit

theorem fit_ofr {w : World} (n : Nat) (x : List Value) (hx : x.length = 2) (h : Fit Tryd.prog w n 40 x) : ∃ y, x = encF y := by
  obtain ⟨n', _, hf⟩ := fit_struct h Tryd.underlying40
  match x, hx with
  | [a, b], _ =>
    have f0 : Fit Tryd.prog w n' 5 (([a, b].drop 0).take (Tryd.prog.cellsOf 5)) := hf 0 _ rfl
    have f1 : Fit Tryd.prog w n' 5 (([a, b].drop 1).take (Tryd.prog.cellsOf 5)) := hf 1 _ rfl
    have c0 : Tryd.prog.cellsOf 5 = 1 := by kernel_rfl
    simp only [c0, List.drop_zero, List.drop_succ_cons, List.take_succ_cons, List.take_zero] at f0 f1
    obtain ⟨k, hk⟩ := fit_u8 f0 Tryd.underlying5
    obtain ⟨k', hk'⟩ := fit_u8 f1 Tryd.underlying5
    simp only [List.cons.injEq, and_true] at hk hk'
    subst hk hk'
    exact ⟨⟨k, k'⟩, rfl⟩
def encB (b : UInt8) : List Value := [ub b]
instance : Enc encB 1 := ⟨fun _ => rfl, fun o u hu => by simp [encB] at hu; subst hu; rfl⟩
instance {o : UInt8} : CellOf (encB o) 0 (ub o) := ⟨rfl⟩
theorem fit_b {w : World} (n : Nat) (x : List Value) (_ : x.length = 1) (h : Fit Tryd.prog w n 5 x) : ∃ y, x = encB y := fit_u8 h Tryd.underlying5

variable {K : Kn} {Hs Rs : List Hl} {F : Hl} {w : World} {p : Nat} {sz : Int} {L : List Off}
theorem final_any (o : Ofr) (hs : Sat K w Hs) : Ret Tryd.prog 17 #[.agg (encF o).toArray] w fun r w' => ∃ v F', r = .tuple #[.int .i64 (finl o), v] ∧ RowL 3 encI 1 v (ans o) F' ∧ Sat K w' (F' :: Hs) := by
  have ha := o.al
  have hb := o.bl
  have hka : ((o.fst.toNat : Int) % 4) = (o.a : Nat) := by unfold Ofr.a; omega
  have hkb : ((o.thn.toNat : Int) % 3) = (o.b : Nat) := by unfold Ofr.b; omega
  refine Ret.enter (n := 26) (args := [.agg (encF o).toArray]) Tryd.func17 rfl rfl ?_
  refine C.keep [(0, _)] ⟨rfl, trivial⟩ ?_
  refine C.seq ?_
  refine C.region ?_
  refine R.sboxA hs rfl rfl ?_
  intro b1 w1 hs
  refine R.ev rfl (E.assign rfl) ?_
  refine R.ev rfl (E.assign rfl) ?_
  refine R.done ?_
  refine X.keep [(1, _)] ⟨rfl, trivial⟩ ?_
  refine X.next ?_
  refine C.seq ?_
  refine C.region ?_
  refine R.buildI [1, 3, 4, 5] (parts := [(0, .const (.int .i64 1)), (1, .const (.int .i64 3)), (2, .const (.int .i64 4)), (3, .const (.int .i64 5))]) hs rfl rfl rfl rfl Tryd.underlying31 Tryd.sz3 Tryd.zr3 rfl (by decide) ?_
  intro b6 w6 F6 r6 hs
  obtain ⟨y1, bk1, of1, hy1, _, _, e1, A1⟩ := hs.el (i := o.a) (ad := some ⟨b6, 0, none⟩) (n := 4) (c := 4) (by omega)
  simp only [Option.some.injEq, Addr.mk.injEq, and_true] at e1
  obtain ⟨rfl, rfl⟩ := e1
  have a1 := A1 _ hs
  have hy1 : y1 = fsN o.a := by unfold fsN; rw [List.getD_eq_getElem?_getD, hy1]; rfl
  subst hy1
  have q1 : w6.cell? ⟨b6, 0 + o.a * 1, none⟩ = some (.int .i64 (fsN o.a)) := a1 0 _ rfl
  first | refine R.ev rfl (E.fieldAddr0 0 rfl Tryd.underlying40 rfl Tryd.sz5 rfl) ?_ | refine R.ev rfl (E.fieldAddrN 0 rfl Tryd.underlying40 rfl Tryd.sz5 rfl) ?_
  refine R.ev rfl (E.load1 rfl Tryd.underlying5 rfl (by first | exact hs.ldc | exact hs.ld rfl | exact hs.ld (by assumption) | exact by assumption | exact At.cellC (by assumption))) ?_
  refine R.ev rfl ((E.rem rfl rfl (by decide) (by omega)).isI (c := (o.a : Nat)) hka) ?_
  refine R.ev rfl (E.indexAddr rfl rfl Tryd.underlying31 Tryd.sz3 rfl (by first | omega | decide)) ?_
  refine R.ev rfl (E.load1 rfl Tryd.underlying3 rfl (by first | exact hs.ldc | exact hs.ld rfl | exact hs.ld (by assumption) | exact by assumption | exact At.cellC (by assumption))) ?_
  refine R.ev rfl (E.assign rfl) ?_
  refine R.done ?_
  refine X.keep [(1, _), (4, _)] ⟨rfl, rfl, trivial⟩ ?_
  refine X.next ?_
  refine C.seq ?_
  refine C.seq ?_
  refine C.region ?_
  refine R.ev rfl (E.move rfl) ?_
  refine R.ev rfl (E.neq rfl rfl) ?_
  refine R.done ?_
  refine X.keep [(1, _), (4, _), (13, _)] ⟨rfl, rfl, rfl, trivial⟩ ?_
  refine X.next ?_
  refine C.cdec rfl (fun h13 => ?_) (fun h13 => ?_)
  · refine C.seq ?_
    refine C.region ?_
    refine R.ev rfl (E.move rfl) ?_
    refine R.ev rfl (E.move rfl) ?_
    refine R.buildI [fsN o.a] (parts := [(0, .tmp 15)]) hs rfl rfl rfl rfl Tryd.underlying31 Tryd.sz3 Tryd.zr3 rfl (by decide) ?_
    intro b16 w16 F16 r16 hs
    refine R.ev rfl (E.assign rfl) ?_
    refine R.ev rfl (E.assign rfl) ?_
    refine R.done ?_
    refine X.keep [(2, _), (3, _)] ⟨rfl, rfl, trivial⟩ ?_
    refine X.next ?_
    refine C.ret ?_
    refine X.thenRet ?_
    refine X.ret2 rfl rfl rfl ?_
    have h13 : ¬ fsN o.a = 1 := by simpa using h13
    exact ⟨_, _, by rw [finl, fiN, if_neg h13], by rw [ans, anN, if_neg h13]; exact r16, hs.to⟩
  · refine C.skip ?_
    refine X.next ?_
    refine C.seq ?_
    refine C.region ?_
    refine R.buildI [2, 4, 5] (parts := [(0, .const (.int .i64 2)), (1, .const (.int .i64 4)), (2, .const (.int .i64 5))]) hs rfl rfl rfl rfl Tryd.underlying31 Tryd.sz3 Tryd.zr3 rfl (by decide) ?_
    intro b17 w17 F17 r17 hs
    obtain ⟨y2, bk2, of2, hy2, _, _, e2, A2⟩ := hs.el (i := o.b) (ad := some ⟨b17, 0, none⟩) (n := 3) (c := 3) (by omega)
    simp only [Option.some.injEq, Addr.mk.injEq, and_true] at e2
    obtain ⟨rfl, rfl⟩ := e2
    have a2 := A2 _ hs
    have hy2 : y2 = thN o.b := by unfold thN; rw [List.getD_eq_getElem?_getD, hy2]; rfl
    subst hy2
    have q2 : w17.cell? ⟨b17, 0 + o.b * 1, none⟩ = some (.int .i64 (thN o.b)) := a2 0 _ rfl
    first | refine R.ev rfl (E.fieldAddr0 1 rfl Tryd.underlying40 rfl Tryd.sz5 rfl) ?_ | refine R.ev rfl (E.fieldAddrN 1 rfl Tryd.underlying40 rfl Tryd.sz5 rfl) ?_
    refine R.ev rfl (E.load1 rfl Tryd.underlying5 rfl (by first | exact hs.ldc | exact hs.ld rfl | exact hs.ld (by assumption) | exact by assumption | exact At.cellC (by assumption))) ?_
    refine R.ev rfl ((E.rem rfl rfl (by decide) (by omega)).isI (c := (o.b : Nat)) hkb) ?_
    refine R.ev rfl (E.indexAddr rfl rfl Tryd.underlying31 Tryd.sz3 rfl (by first | omega | decide)) ?_
    refine R.ev rfl (E.load1 rfl Tryd.underlying3 rfl (by first | exact hs.ldc | exact hs.ld rfl | exact hs.ld (by assumption) | exact by assumption | exact At.cellC (by assumption))) ?_
    refine R.ev rfl (E.assign rfl) ?_
    refine R.done ?_
    refine X.keep [(5, _)] ⟨rfl, trivial⟩ ?_
    refine X.next ?_
    refine C.seq ?_
    refine C.region ?_
    refine R.ev rfl (E.move rfl) ?_
    refine R.ev rfl (E.move rfl) ?_
    refine R.buildI [1, thN o.b] (parts := [(0, .const (.int .i64 1)), (1, .tmp 24)]) hs rfl rfl rfl rfl Tryd.underlying31 Tryd.sz3 Tryd.zr3 rfl (by decide) ?_
    intro b25 w25 F25 r25 hs
    refine R.ev rfl (E.assign rfl) ?_
    refine R.ev rfl (E.assign rfl) ?_
    refine R.done ?_
    refine X.keep [(2, _), (3, _)] ⟨rfl, rfl, trivial⟩ ?_
    refine X.next ?_
    refine C.ret ?_
    refine X.ret2 rfl rfl rfl ?_
    have h13 : fsN o.a = 1 := by simpa using h13
    exact ⟨_, _, by rw [finl, fiN, if_pos h13], by rw [ans, anN, if_pos h13]; exact r25, hs.to⟩
end Go.Proofs.YtajbclcpkgenbaaDoor
