/-
  package window: each method as a plain function on the size and the list of the offers.
-/
import Derived.Test.YtajbclcpkgenbaaDoorWin
namespace Go.Proofs.YtajbclcpkgenbaaDoor
open Go.Eng Go.RowKit

@[reducible] def ptr (p : Nat) : Value := .pointer (some ⟨p, 0, none⟩)
/-- the window at block p: its size, its offers, its piece -/
class Win (p : Nat) (sz : outParam Int) (L : outParam (List Off)) (F : outParam Hl) : Prop where
  ex : ∃ v G, F = row p 78 [.int .i64 sz, v] ++ G ∧ RowL 81 encO 34 v L G
class WinIn (p : Nat) (sz : outParam Int) (L : outParam (List Off)) (Hs : List Hl) : Prop where
  ex : ∃ v G, InH p (.cells [.int .i64 sz, v].toArray 78 (0, 0)) Hs ∧ RowL 81 encO 34 v L G ∧ FIn G Hs
instance {p : Nat} {sz : Int} {L : List Off} {A : Hl} {Hs : List Hl} [h : WinIn p sz L Hs] : WinIn p sz L (A :: Hs) := ⟨by
  obtain ⟨v, G, h1, h2, h3⟩ := h.ex
  exact ⟨v, G, inferInstance, h2, inferInstance⟩⟩
instance {p : Nat} {sz : Int} {L : List Off} {F : Hl} {Hs : List Hl} [h : Win p sz L F] [k : FIn F Hs] : WinIn p sz L Hs := ⟨by
  obtain ⟨v, G, rfl, hr⟩ := h.ex
  exact ⟨v, G, k.app.1.row, hr, k.app.2⟩⟩
instance {p : Nat} {sz : Int} {v : Value} {L : List Off} {G : Hl} {Hs : List Hl} [h : InH p (.cells [.int .i64 sz, v].toArray 78 (0, 0)) Hs] [r : RowL 81 encO 34 v L G] [k : FIn G Hs] : WinIn p sz L Hs := ⟨⟨v, G, h, r, k⟩⟩
theorem Win.mk' {p : Nat} {sz : Int} {v : Value} {L : List Off} {G : Hl} (h : RowL 81 encO 34 v L G) : Win p sz L (row p 78 [.int .i64 sz, v] ++ G) := ⟨v, G, rfl, h⟩

variable {K : Kn} {Hs Rs : List Hl} {F : Hl} {w : World} {p : Nat} {sz : Int} {L : List Off}

def isSz (n : Int) : Bool := decide (1 ≤ n) && decide (n ≤ 64)
theorem isSize_any (n : Int) (w : World) : Ret Tryd.prog 36 #[.int .i64 n] w fun v w' => v = .bool (isSz n) ∧ w = w' := by
  refine Ret.enter (n := 9) (args := [.int .i64 n]) Tryd.func36 rfl rfl ?_
  refine C.keep [(0, _)] ⟨rfl, trivial⟩ ?_
  refine C.seq ?_
  refine C.region ?_
  refine R.ev rfl (E.assign rfl) ?_
  refine R.done ?_
  refine X.keep [(0, _)] ⟨rfl, trivial⟩ ?_
  refine X.next ?_
  refine C.seq ?_
  refine C.region ?_
  refine R.ev rfl (E.move rfl) ?_
  refine R.ev rfl (E.geq rfl rfl) ?_
  refine R.ev rfl (E.move rfl) ?_
  refine R.split 5 rfl (fun h5 => ?_) (fun h5 => ?_)
  · refine R.gyes rfl rfl ?_
    refine R.ev rfl (E.move rfl) ?_
    refine R.gyes rfl rfl ?_
    refine R.ev rfl (E.leq rfl rfl) ?_
    refine R.ev rfl (E.pickT rfl rfl) ?_
    refine R.ev rfl (E.assign rfl) ?_
    refine R.done ?_
    refine X.keep [(2, _)] ⟨rfl, trivial⟩ ?_
    refine X.next ?_
    refine C.ret ?_
    refine X.ret1 rfl rfl ?_
    exact ⟨by first | (simp_all [isSz]; done) | (simp_all [isSz]; omega), rfl⟩
  · refine R.gskip rfl rfl rfl ?_
    refine R.gskip rfl rfl rfl ?_
    refine R.ev rfl (E.pickF rfl rfl) ?_
    refine R.ev rfl (E.assign rfl) ?_
    refine R.done ?_
    refine X.keep [(2, _)] ⟨rfl, trivial⟩ ?_
    refine X.next ?_
    refine C.ret ?_
    refine X.ret1 rfl rfl ?_
    exact ⟨by first | (simp_all [isSz]; done) | (simp_all [isSz]; omega), rfl⟩

theorem new_any (n : Int) (hs : Sat K w Hs) : Ret Tryd.prog 13 #[.int .i64 n] w fun v w' =>
    (isSz n = false ∧ v = .tuple #[.pointer none, .int .i64 2] ∧ Sat K w' Hs) ∨ (isSz n = true ∧ ∃ p F, v = .tuple #[ptr p, .int .i64 0] ∧ Win p n [] F ∧ Sat K w' (F :: Hs)) := by
  refine Ret.enter (n := 10) (args := [.int .i64 n]) Tryd.func13 rfl rfl ?_
  refine C.keep [(0, _)] ⟨rfl, trivial⟩ ?_
  refine C.seq ?_
  refine C.region ?_
  refine R.ev rfl (E.assign rfl) ?_
  refine R.ev rfl (E.assign rfl) ?_
  refine R.done ?_
  refine X.keep [(0, _)] ⟨rfl, trivial⟩ ?_
  refine X.next ?_
  refine C.seq ?_
  refine C.seq ?_
  refine C.region ?_
  refine R.ev rfl (E.move rfl) ?_
  refine R.call ⟨_, _, Tryd.func36, rfl, by kernel_rfl⟩ rfl rfl (isSize_any n _) ?_
  rintro _ _ ⟨rfl, rfl⟩
  refine R.ev rfl ((E.not rfl).isB (c := !(isSz n)) rfl) ?_
  refine R.done ?_
  refine X.keep [(0, _), (6, _)] ⟨rfl, rfl, trivial⟩ ?_
  refine X.next ?_
  refine C.cbool rfl (fun h6 => ?_) (fun h6 => ?_)
  · refine C.seq ?_
    refine C.region ?_
    refine R.ev rfl (E.assign rfl) ?_
    refine R.ev rfl (E.assign rfl) ?_
    refine R.done ?_
    refine X.keep [(2, _), (3, _)] ⟨rfl, rfl, trivial⟩ ?_
    refine X.next ?_
    refine C.ret ?_
    refine X.thenRet ?_
    refine X.ret2 rfl rfl rfl ?_
    exact .inl ⟨by simpa using h6, rfl, hs⟩
  · refine C.skip ?_
    refine X.next ?_
    refine C.seq ?_
    refine C.region ?_
    refine R.ev rfl (E.move rfl) ?_
    refine R.ev rfl (E.buildS rfl Tryd.underlying78 Tryd.zr78 Tryd.pl78 rfl) ?_
    refine R.sboxA hs rfl rfl ?_
    intro b9 w9 hs
    refine R.ev rfl (E.assign rfl) ?_
    refine R.ev rfl (E.assign rfl) ?_
    refine R.done ?_
    refine X.keep [(2, _), (3, _)] ⟨rfl, rfl, trivial⟩ ?_
    refine X.next ?_
    refine C.ret ?_
    refine X.ret2 rfl rfl rfl ?_
    exact .inr ⟨by simpa using h6, b9, _, rfl, Win.mk' (RowL.nil _ _ _), by rw [List.append_nil]; exact hs⟩
theorem size_any (hs : Sat K w Hs) [hw : WinIn p sz L Hs] : Ret Tryd.prog 22 #[ptr p] w fun r w' => r = .int .i64 sz ∧ Sat K w' Hs := by
  obtain ⟨v, G, _, hr, _⟩ := hw.ex
  refine Ret.enter (n := 9) (args := [ptr p]) Tryd.func22 rfl rfl ?_
  refine C.keep [(0, _)] ⟨rfl, trivial⟩ ?_
  refine C.seq ?_
  refine C.region ?_
  refine R.ev rfl (E.assign rfl) ?_
  refine R.done ?_
  refine X.keep [(0, _)] ⟨rfl, trivial⟩ ?_
  refine X.next ?_
  refine C.seq ?_
  refine C.seq ?_
  refine C.region ?_
  refine R.ev rfl (E.move rfl) ?_
  refine R.ev rfl (E.eqlNilF rfl rfl Tryd.underlying25) ?_
  refine R.done ?_
  refine X.keep [(0, _), (4, _)] ⟨rfl, rfl, trivial⟩ ?_
  refine X.next ?_
  refine C.cfalse rfl ?_
  refine C.skip ?_
  refine X.next ?_
  refine C.seq ?_
  refine C.region ?_
  refine R.ev rfl (E.move rfl) ?_
  refine R.ev rfl (E.nilCheck rfl) ?_
  first | refine R.ev rfl (E.fieldAddr0 0 rfl Tryd.underlying78 rfl Tryd.sz3 rfl) ?_ | refine R.ev rfl (E.fieldAddrN 0 rfl Tryd.underlying78 rfl Tryd.sz3 rfl) ?_
  refine R.ev rfl (E.load1 rfl Tryd.underlying3 rfl (by first | exact hs.ldc | exact hs.ld rfl | exact hs.ld (by assumption) | exact by assumption | exact At.cellC (by assumption))) ?_
  refine R.ev rfl (E.assign rfl) ?_
  refine R.done ?_
  refine X.keep [(2, _)] ⟨rfl, trivial⟩ ?_
  refine X.next ?_
  refine C.ret ?_
  refine X.ret1 rfl rfl ?_
  exact ⟨rfl, hs⟩
theorem len_any (hs : Sat K w Hs) [hw : WinIn p sz L Hs] : Ret Tryd.prog 20 #[ptr p] w fun r w' => r = .int .i64 L.length ∧ Sat K w' Hs := by
  obtain ⟨v, G, _, hr, _⟩ := hw.ex
  obtain ⟨ad, cap, rfl, hc, hcm, had⟩ := hr.val
  refine Ret.enter (n := 10) (args := [ptr p]) Tryd.func20 rfl rfl ?_
  refine C.keep [(0, _)] ⟨rfl, trivial⟩ ?_
  refine C.seq ?_
  refine C.region ?_
  refine R.ev rfl (E.assign rfl) ?_
  refine R.done ?_
  refine X.keep [(0, _)] ⟨rfl, trivial⟩ ?_
  refine X.next ?_
  refine C.seq ?_
  refine C.seq ?_
  refine C.region ?_
  refine R.ev rfl (E.move rfl) ?_
  refine R.ev rfl (E.eqlNilF rfl rfl Tryd.underlying25) ?_
  refine R.done ?_
  refine X.keep [(0, _), (4, _)] ⟨rfl, rfl, trivial⟩ ?_
  refine X.next ?_
  refine C.cfalse rfl ?_
  refine C.skip ?_
  refine X.next ?_
  refine C.seq ?_
  refine C.region ?_
  refine R.ev rfl (E.move rfl) ?_
  refine R.ev rfl (E.nilCheck rfl) ?_
  first | refine R.ev rfl (E.fieldAddr0 1 rfl Tryd.underlying78 rfl Tryd.sz76 rfl) ?_ | refine R.ev rfl (E.fieldAddrN 1 rfl Tryd.underlying78 rfl Tryd.sz76 rfl) ?_
  refine R.ev rfl (E.load1 rfl Tryd.underlying76 rfl (by first | exact hs.ldc | exact hs.ld rfl | exact hs.ld (by assumption) | exact by assumption | exact At.cellC (by assumption))) ?_
  refine R.ev rfl (E.lenSl rfl Tryd.underlying76) ?_
  refine R.ev rfl (E.assign rfl) ?_
  refine R.done ?_
  refine X.keep [(2, _)] ⟨rfl, trivial⟩ ?_
  refine X.next ?_
  refine C.ret ?_
  refine X.ret1 rfl rfl ?_
  exact ⟨rfl, hs⟩
theorem outs_any (o : Off) (hs : Sat K w Hs) : Ret Tryd.prog 38 #[.agg (encO o).toArray] w fun v w' => v = .bool o.outs ∧ Sat K w' Hs := by
  have ho := encO_out o
  refine Ret.enter (n := 11) (args := [.agg (encO o).toArray]) Tryd.func38 rfl rfl ?_
  refine C.keep [(0, _)] ⟨rfl, trivial⟩ ?_
  refine C.seq ?_
  refine C.region ?_
  refine R.sboxA hs rfl rfl ?_
  intro b1 w1 hs
  refine R.ev rfl (E.assign rfl) ?_
  refine R.done ?_
  refine X.keep [(1, _)] ⟨rfl, trivial⟩ ?_
  refine X.next ?_
  refine C.seq ?_
  refine C.region ?_
  first | refine R.ev rfl (E.fieldAddr0 33 rfl Tryd.underlying81 rfl Tryd.sz3 rfl) ?_ | refine R.ev rfl (E.fieldAddrN 33 rfl Tryd.underlying81 rfl Tryd.sz3 rfl) ?_
  refine R.ev rfl (E.load1 rfl Tryd.underlying3 rfl (by first | exact hs.ldc | exact hs.ld rfl | exact hs.ld (by assumption) | exact by assumption | exact At.cellC (by assumption))) ?_
  refine R.ev rfl (E.eql rfl rfl) ?_
  refine R.ev rfl (E.move rfl) ?_
  refine R.split 6 rfl (fun h6 => ?_) (fun h6 => ?_)
  · refine R.gskip rfl rfl rfl ?_
    refine R.gskip rfl rfl rfl ?_
    refine R.gskip rfl rfl rfl ?_
    refine R.ev rfl (E.pickT rfl rfl) ?_
    refine R.ev rfl (E.assign rfl) ?_
    refine R.done ?_
    refine X.keep [(2, _)] ⟨rfl, trivial⟩ ?_
    refine X.next ?_
    refine C.ret ?_
    refine X.ret1 rfl rfl ?_
    exact ⟨by have := o.out.2; first | (simp_all [Off.outs]; done) | (simp_all [Off.outs]; omega), hs.to⟩
  · refine R.gyes rfl rfl ?_
    first | refine R.ev rfl (E.fieldAddr0 33 rfl Tryd.underlying81 rfl Tryd.sz3 rfl) ?_ | refine R.ev rfl (E.fieldAddrN 33 rfl Tryd.underlying81 rfl Tryd.sz3 rfl) ?_
    refine R.gyes rfl rfl ?_
    refine R.ev rfl (E.load1 rfl Tryd.underlying3 rfl (by first | exact hs.ldc | exact hs.ld rfl | exact hs.ld (by assumption) | exact by assumption | exact At.cellC (by assumption))) ?_
    refine R.gyes rfl rfl ?_
    refine R.ev rfl (E.eql rfl rfl) ?_
    refine R.ev rfl (E.pickF rfl rfl) ?_
    refine R.ev rfl (E.assign rfl) ?_
    refine R.done ?_
    refine X.keep [(2, _)] ⟨rfl, trivial⟩ ?_
    refine X.next ?_
    refine C.ret ?_
    refine X.ret1 rfl rfl ?_
    exact ⟨by have := o.out.2; first | (simp_all [Off.outs]; done) | (simp_all [Off.outs]; omega), hs.to⟩
theorem find1_any (o : Off) (a : Vec 32) (b : Nat) (t : TypeId) (hs : Sat K w Hs) [InH b (.cells (a.1.map ub).toArray t (0, 0)) Hs] : Ret Tryd.prog 45 #[.agg (encO o).toArray, ptr b] w fun v w' => v = .bool (decide (o.id = a)) ∧ Sat K w' Hs := by
  have e1 := encV_len a
  have e2 := encV_len o.id
  refine Ret.enter (n := 8) (args := [.agg (encO o).toArray, ptr b]) Tryd.func45 rfl rfl ?_
  refine C.keep [(0, _), (1, _)] ⟨rfl, rfl, trivial⟩ ?_
  refine C.seq ?_
  refine C.region ?_
  refine R.sboxA hs rfl rfl ?_
  intro b2 w2 hs
  refine R.ev rfl (E.assign rfl) ?_
  refine R.done ?_
  refine X.keep [(1, _), (2, _)] ⟨rfl, rfl, trivial⟩ ?_
  refine X.next ?_
  refine C.seq ?_
  refine C.region ?_
  first | refine R.ev rfl (E.fieldAddr0 0 rfl Tryd.underlying81 rfl Tryd.sz37 rfl) ?_ | refine R.ev rfl (E.fieldAddrN 0 rfl Tryd.underlying81 rfl Tryd.sz37 rfl) ?_
  refine R.ev rfl (E.loadRowC rfl Tryd.underlying37 rfl Tryd.sz37 (by first | exact ⟨hs.ldA, by first | rfl | assumption | exact encV_len _ | exact Enc.len _ | exact len_ub (by assumption)⟩ | exact ⟨hs.ldP rfl, by first | rfl | assumption | exact encV_len _ | exact Enc.len _ | exact len_ub (by assumption)⟩ | exact ⟨hs.ldM rfl rfl, by first | rfl | assumption | exact encV_len _ | exact Enc.len _ | exact len_ub (by assumption)⟩ | exact ⟨hs.ldM (by assumption) (by first | rfl | assumption), by first | rfl | assumption | exact encV_len _ | exact Enc.len _ | exact len_ub (by assumption)⟩ | exact ⟨by assumption, by first | rfl | assumption | exact encV_len _ | exact Enc.len _ | exact len_ub (by assumption)⟩ | exact hs.ldp | exact At.partC (by assumption))) ?_
  refine R.ev rfl (E.loadRowC rfl Tryd.underlying37 rfl Tryd.sz37 (by first | exact ⟨hs.ldA, by first | rfl | assumption | exact encV_len _ | exact Enc.len _ | exact len_ub (by assumption)⟩ | exact ⟨hs.ldP rfl, by first | rfl | assumption | exact encV_len _ | exact Enc.len _ | exact len_ub (by assumption)⟩ | exact ⟨hs.ldM rfl rfl, by first | rfl | assumption | exact encV_len _ | exact Enc.len _ | exact len_ub (by assumption)⟩ | exact ⟨hs.ldM (by assumption) (by first | rfl | assumption), by first | rfl | assumption | exact encV_len _ | exact Enc.len _ | exact len_ub (by assumption)⟩ | exact ⟨by assumption, by first | rfl | assumption | exact encV_len _ | exact Enc.len _ | exact len_ub (by assumption)⟩ | exact hs.ldp | exact At.partC (by assumption))) ?_
  first | refine R.ev rfl (E.eqV 10 rfl rfl Tryd.lv37 rfl Tryd.underlying37 rfl Tryd.gd37) ?_ | refine R.ev rfl (E.eqId 10 32 rfl rfl Tryd.lv37 rfl Tryd.underlying37 rfl Tryd.gd37 (by assumption) (by assumption)) ?_
  refine R.ev rfl (E.assign rfl) ?_
  refine R.done ?_
  refine X.keep [(3, _)] ⟨rfl, trivial⟩ ?_
  refine X.next ?_
  refine C.ret ?_
  refine X.ret1 rfl rfl ?_
  exact ⟨rfl, hs.to⟩
theorem find_any (a : Vec 32) (hs : Sat K w Hs) [hw : WinIn p sz L Hs] : Ret Tryd.prog 40 #[ptr p, idV a.1] w fun r w' => r = .int .i64 (idxP (fun o => decide (o.id = a)) L) ∧ Sat K w' Hs := by
  obtain ⟨v, G, _, hr, _⟩ := hw.ex
  obtain ⟨ad, cap, rfl, hc, hcm, had⟩ := hr.val
  refine Ret.enter (n := 11) (args := [ptr p, idV a.1]) Tryd.func40 rfl rfl ?_
  refine C.keep [(0, _), (1, _)] ⟨rfl, rfl, trivial⟩ ?_
  refine C.seq ?_
  refine C.region ?_
  refine R.sboxA hs rfl rfl ?_
  intro b3 w3 hs
  refine R.ev rfl (E.assign rfl) ?_
  refine R.done ?_
  refine X.keep [(0, _), (3, _)] ⟨rfl, rfl, trivial⟩ ?_
  refine X.next ?_
  refine C.seq ?_
  refine C.region ?_
  refine R.ev rfl (E.move rfl) ?_
  refine R.ev rfl (E.nilCheck rfl) ?_
  first | refine R.ev rfl (E.fieldAddr0 1 rfl Tryd.underlying78 rfl Tryd.sz76 rfl) ?_ | refine R.ev rfl (E.fieldAddrN 1 rfl Tryd.underlying78 rfl Tryd.sz76 rfl) ?_
  refine R.ev rfl (E.load1 rfl Tryd.underlying76 rfl (by first | exact hs.ldc | exact hs.ld rfl | exact hs.ld (by assumption) | exact by assumption | exact At.cellC (by assumption))) ?_
  refine R.ev rfl (E.makeFunc rfl rfl) ?_
  refine R.call ⟨_, _, Tryd.func37, rfl, by kernel_rfl⟩ rfl rfl (idxO_any (p := fun o => decide (o.id = a)) (first := []) (cap := [ptr b3]) ⟨_, _, Tryd.func45, rfl, by kernel_rfl⟩ hs (by unfold maxLen at hcm; omega) (fun y _ w' hs' => find1_any y a b3 _ hs')) ?_
  rintro _ w1 ⟨rfl, hs⟩
  refine R.ev rfl (E.assign rfl) ?_
  refine R.done ?_
  refine X.keep [(4, _)] ⟨rfl, trivial⟩ ?_
  refine X.next ?_
  refine C.ret ?_
  refine X.ret1 rfl rfl ?_
  exact ⟨rfl, hs.to⟩
def cnt (L : List Off) : Nat := (L.filter Off.outs).length
theorem cnt_le (L : List Off) : cnt L ≤ L.length := List.length_filter_le _ _
theorem cnt_snoc {L : List Off} {k : Nat} {y : Off} (h : L[k]? = some y) : cnt (L.take (k + 1)) = cnt (L.take k) + (if y.outs then 1 else 0) := by
  rw [take_snoc h, cnt, cnt, List.filter_append, List.length_append]
  cases hy : y.outs <;> simp [hy]
theorem count_any (hs : Sat K w Hs) [hw : WinIn p sz L Hs] : Ret Tryd.prog 41 #[ptr p] w fun r w' => r = .int .i64 (cnt L) ∧ Sat K w' Hs := by
  obtain ⟨v, G, _, hr, _⟩ := hw.ex
  obtain ⟨ad, cap, rfl, hc, hcm, had⟩ := hr.val
  unfold maxLen at hcm
  refine Ret.enter (n := 21) (args := [ptr p]) Tryd.func41 rfl rfl ?_
  refine C.keep [(0, _)] ⟨rfl, trivial⟩ ?_
  refine C.seq ?_
  refine C.region ?_
  refine R.ev rfl (E.assign rfl) ?_
  refine R.done ?_
  refine X.keep [(0, _)] ⟨rfl, trivial⟩ ?_
  refine X.next ?_
  refine C.seq ?_
  refine C.region ?_
  refine R.ev rfl (E.assign rfl) ?_
  refine R.done ?_
  refine X.keep [(0, _), (3, _)] ⟨rfl, rfl, trivial⟩ ?_
  refine X.next ?_
  refine C.seq ?_
  refine C.seq ?_
  refine C.region ?_
  refine R.ev rfl (E.move rfl) ?_
  refine R.ev rfl (E.nilCheck rfl) ?_
  first | refine R.ev rfl (E.fieldAddr0 1 rfl Tryd.underlying78 rfl Tryd.sz76 rfl) ?_ | refine R.ev rfl (E.fieldAddrN 1 rfl Tryd.underlying78 rfl Tryd.sz76 rfl) ?_
  refine R.ev rfl (E.load1 rfl Tryd.underlying76 rfl (by first | exact hs.ldc | exact hs.ld rfl | exact hs.ld (by assumption) | exact by assumption | exact At.cellC (by assumption))) ?_
  refine R.ev rfl (E.lenSl rfl Tryd.underlying76) ?_
  refine R.ev rfl (E.move rfl) ?_
  refine R.done ?_
  refine X.keep [(3, _), (9, _), (10, _), (11, _)] ⟨rfl, rfl, rfl, rfl, trivial⟩ ?_
  refine X.next ?_
  refine C.block ?_
  refine C.loop (T := Nat × Nat) [(9, _), (10, _)] (fun (k, c) => [(3, .int .i64 (c : Nat)), (11, .int .i64 (k : Nat))]) (fun (k, c) w' => k ≤ L.length ∧ Sat K w' Hs ∧ c = cnt (L.take k)) (fun (k, _) => L.length - k) ((0, 0)) ⟨rfl, rfl, rfl, rfl, trivial⟩ ⟨by omega, hs, rfl⟩ ?_
  rintro ⟨k, c⟩ w1 ⟨hk, hs, hc1⟩
  have hcl : c ≤ k := by have := cnt_le (L.take k); simp at this; omega
  refine C.keep [(3, _), (9, _), (10, _), (11, _)] ⟨rfl, rfl, rfl, rfl, trivial⟩ ?_
  refine C.seq ?_
  refine C.region ?_
  refine R.ev rfl (E.lss rfl rfl) ?_
  refine R.done ?_
  refine X.keep [(3, _), (9, _), (10, _), (11, _), (12, _)] ⟨rfl, rfl, rfl, rfl, rfl, trivial⟩ ?_
  refine X.next ?_
  refine C.seq ?_
  refine C.cdec rfl (fun h12 => ?_) (fun h12 => ?_)
  · obtain ⟨y, bk_y, of_y, hy, my, ly, rfl, Ay⟩ := hs.el (i := k) (ad := ad) (n := L.length) (c := cap) (by omega)
    have ay := Ay _ hs
    have ho := encO_one y
    refine C.skip ?_
    refine X.next ?_
    refine C.seq ?_
    refine C.block ?_
    refine C.seq ?_
    refine C.region ?_
    refine R.ev rfl (E.indexAddr rfl rfl Tryd.underlying76 Tryd.sz81 rfl (by first | omega | decide)) ?_
    refine R.ev rfl (E.loadRowC rfl Tryd.underlying81 rfl Tryd.sz81 (by first | exact ⟨hs.ldA, by first | rfl | assumption | exact encV_len _ | exact Enc.len _ | exact len_ub (by assumption)⟩ | exact ⟨hs.ldP rfl, by first | rfl | assumption | exact encV_len _ | exact Enc.len _ | exact len_ub (by assumption)⟩ | exact ⟨hs.ldM rfl rfl, by first | rfl | assumption | exact encV_len _ | exact Enc.len _ | exact len_ub (by assumption)⟩ | exact ⟨hs.ldM (by assumption) (by first | rfl | assumption), by first | rfl | assumption | exact encV_len _ | exact Enc.len _ | exact len_ub (by assumption)⟩ | exact ⟨by assumption, by first | rfl | assumption | exact encV_len _ | exact Enc.len _ | exact len_ub (by assumption)⟩ | exact hs.ldp | exact At.partC (by assumption))) ?_
    refine R.sallocA hs Tryd.zr81 rfl ?_
    intro b5 w5 hs
    first | refine R.cstoreAll hs rfl rfl Tryd.sz81 (by first | rfl | assumption | exact encV_len _ | exact Enc.len _ | exact len_ub (by assumption) | simp [*]) (by first | rfl | assumption | exact encV_len _ | exact Enc.len _ | exact len_ub (by assumption) | simp [*]) (by first | assumption | exact OneL.all | exact Enc.one _ | exact ub_all _ | (repeat' (first | refine List.forall_mem_cons.2 ⟨?_, ?_⟩ | exact List.forall_mem_nil _ | rfl | exact OneC.one | exact KRow.oneC' (by assumption)))) ?_ | refine R.cstore hs rfl rfl Tryd.sz81 (by first | rfl | assumption | exact encV_len _ | exact Enc.len _ | exact len_ub (by assumption) | simp [*]) (by simp [*]) (by first | assumption | exact OneL.all | exact Enc.one _ | exact ub_all _ | (repeat' (first | refine List.forall_mem_cons.2 ⟨?_, ?_⟩ | exact List.forall_mem_nil _ | rfl | exact OneC.one | exact KRow.oneC' (by assumption)))) ?_
    intro w4_3 hs
    try simp only [List.set_cons_zero, List.set_cons_succ] at hs
    refine R.done ?_
    refine X.keep [(3, _), (5, _), (9, _), (10, _), (11, _)] ⟨rfl, rfl, rfl, rfl, rfl, trivial⟩ ?_
    refine X.next ?_
    refine C.seq ?_
    refine C.region ?_
    refine R.ev rfl (E.loadRowC rfl Tryd.underlying81 rfl Tryd.sz81 (by first | exact ⟨hs.ldA, by first | rfl | assumption | exact encV_len _ | exact Enc.len _ | exact len_ub (by assumption)⟩ | exact ⟨hs.ldP rfl, by first | rfl | assumption | exact encV_len _ | exact Enc.len _ | exact len_ub (by assumption)⟩ | exact ⟨hs.ldM rfl rfl, by first | rfl | assumption | exact encV_len _ | exact Enc.len _ | exact len_ub (by assumption)⟩ | exact ⟨hs.ldM (by assumption) (by first | rfl | assumption), by first | rfl | assumption | exact encV_len _ | exact Enc.len _ | exact len_ub (by assumption)⟩ | exact ⟨by assumption, by first | rfl | assumption | exact encV_len _ | exact Enc.len _ | exact len_ub (by assumption)⟩ | exact hs.ldp | exact At.partC (by assumption))) ?_
    refine R.call ⟨_, _, Tryd.func38, rfl, by kernel_rfl⟩ rfl rfl (outs_any y hs) ?_
    rintro _ w7 ⟨rfl, hs⟩
    refine R.done ?_
    refine X.keep [(3, _), (9, _), (10, _), (11, _), (16, _)] ⟨rfl, rfl, rfl, rfl, rfl, trivial⟩ ?_
    refine X.next ?_
    refine C.cbool rfl (fun h16 => ?_) (fun h16 => ?_)
    · refine C.region ?_
      refine R.ev rfl (E.move rfl) ?_
      refine R.ev rfl (E.add rfl rfl (by omega) (by omega)) ?_
      refine R.ev rfl (E.assign rfl) ?_
      refine R.done ?_
      refine X.keep [(3, _), (9, _), (10, _), (11, _)] ⟨rfl, rfl, rfl, rfl, trivial⟩ ?_
      refine X.blockNormal ?_
      refine X.next ?_
      refine C.region ?_
      refine R.ev rfl (E.add rfl rfl (by omega) (by omega)) ?_
      refine R.ev rfl (E.move rfl) ?_
      refine R.done ?_
      refine X.keep [(3, _), (9, _), (10, _), (11, _)] ⟨rfl, rfl, rfl, rfl, trivial⟩ ?_
      first
        | exact X.again (k + 1, c + 1) ⟨rfl, rfl, rfl, rfl, trivial⟩ ⟨by omega, hs.to, by rw [cnt_snoc hy, h16, ← hc1]; rfl⟩ (by show _ - _ < _ - _; omega)
        | exact X.again (k + 1, c) ⟨rfl, rfl, rfl, rfl, trivial⟩ ⟨by omega, hs.to, by rw [cnt_snoc hy, h16, ← hc1]; rfl⟩ (by show _ - _ < _ - _; omega)
    · refine C.skip ?_
      refine X.blockNormal ?_
      refine X.next ?_
      refine C.region ?_
      refine R.ev rfl (E.add rfl rfl (by omega) (by omega)) ?_
      refine R.ev rfl (E.move rfl) ?_
      refine R.done ?_
      refine X.keep [(3, _), (9, _), (10, _), (11, _)] ⟨rfl, rfl, rfl, rfl, trivial⟩ ?_
      first
        | exact X.again (k + 1, c + 1) ⟨rfl, rfl, rfl, rfl, trivial⟩ ⟨by omega, hs.to, by rw [cnt_snoc hy, h16, ← hc1]; rfl⟩ (by show _ - _ < _ - _; omega)
        | exact X.again (k + 1, c) ⟨rfl, rfl, rfl, rfl, trivial⟩ ⟨by omega, hs.to, by rw [cnt_snoc hy, h16, ← hc1]; rfl⟩ (by show _ - _ < _ - _; omega)
  · refine C.exit ?_
    refine X.thenExit ?_
    refine X.loopExit ?_
    refine X.blockExit ?_
    refine X.next ?_
    refine C.seq ?_
    refine C.region ?_
    refine R.ev rfl (E.move rfl) ?_
    refine R.ev rfl (E.assign rfl) ?_
    refine R.done ?_
    refine X.keep [(2, _)] ⟨rfl, trivial⟩ ?_
    refine X.next ?_
    refine C.ret ?_
    refine X.ret1 rfl rfl ?_
    exact ⟨by rw [hc1, show k = L.length by omega, List.take_length], hs⟩

/-! the table -/
def chg : List Bool := [false, true, false, true, true, true, false, false, true, false, true, true, false, false, false, false, false, false, false, false, false, false, false, false, false, false, false, false, false, false, false, false, false, false, false, false]
class HasChg (K : Kn) : Prop where
  at_ : KAt K 0 0 (chg.map .bool)
instance {K K' : Kn} [k : KLe K K'] [h : HasChg K] : HasChg K' := ⟨h.at_.mono k.le⟩
def may (i j : Nat) : Bool := chg.getD (i * 6 + j) false
theorem chg_at [h : HasChg K] (hs : Sat K w Hs) {i j : Nat} (hi : i < 6) (hj : j < 6) : w.cell? ⟨0, 0 + i * 6 + j * 1, none⟩ = some (.bool (may i j)) := by
  have hlt : i * 6 + j < chg.length := by simp [chg]; omega
  have := h.at_.at hs (i * 6 + j) (.bool (may i j)) (by simp [may, hlt])
  rw [show 0 + i * 6 + j * 1 = 0 + (i * 6 + j) by omega]; exact this

abbrev isId (a : Vec 32) : Off → Bool := fun o => decide (o.id = a)
abbrev has (a : Vec 32) (L : List Off) : Bool := L.any (isId a)
theorem idx_ge {a : Vec 32} {L : List Off} : decide (0 ≤ idxP (isId a) L) = has a L := by
  rw [Bool.eq_iff_iff, decide_eq_true_eq, idxP_nonneg_iff, List.any_eq_true]
theorem idx_lt {a : Vec 32} {L : List Off} : decide (idxP (isId a) L < 0) = !has a L := by
  rw [← idx_ge, Bool.eq_iff_iff]; simp

/-- Offer: the error -/
def offerE (sz : Int) (L : List Off) (a : Vec 32) (n : Int) : Int := if n < 0 ∨ 65536 < n then 2 else if has a L then 7 else if sz ≤ cnt L then 25 else 0
def offerL (sz : Int) (L : List Off) (a : Vec 32) (n : Int) : List Off := if offerE sz L a n = 0 then L ++ [⟨a, n, 0⟩] else L
theorem offer_any (a : Vec 32) (n : Int) (hs : Sat K w (F :: Rs)) [hw : Win p sz L F] (hL : L.length ≤ 1000000) : Ret Tryd.prog 16 #[ptr p, idV a.1, .int .i64 n] w fun r w' => r = .int .i64 (offerE sz L a n) ∧ ∃ F', Win p sz (offerL sz L a n) F' ∧ Sat K w' (F' :: Rs) := by
  obtain ⟨v, G, rfl, hr⟩ := hw.ex
  obtain ⟨ad, cap, rfl, hc, hcm, had⟩ := hr.val
  have hs := hs.cut
  have e1 := encV_len a
  refine Ret.enter (n := 42) (args := [ptr p, idV a.1, .int .i64 n]) Tryd.func16 rfl rfl ?_
  refine C.keep [(0, _), (1, _), (2, _)] ⟨rfl, rfl, rfl, trivial⟩ ?_
  refine C.seq ?_
  refine C.region ?_
  refine R.sboxA hs rfl rfl ?_
  intro b4 w4 hs
  refine R.ev rfl (E.assign rfl) ?_
  refine R.done ?_
  refine X.keep [(0, _), (2, _), (4, _)] ⟨rfl, rfl, rfl, trivial⟩ ?_
  refine X.next ?_
  refine C.seq ?_
  refine C.block ?_
  refine C.seq ?_
  refine C.region ?_
  refine R.ev rfl (E.move rfl) ?_
  refine R.ev rfl (E.eqlNilF rfl rfl Tryd.underlying25) ?_
  refine R.ev rfl (E.assign rfl) ?_
  refine R.done ?_
  refine X.keep [(0, _), (2, _), (4, _), (7, _)] ⟨rfl, rfl, rfl, rfl, trivial⟩ ?_
  refine X.next ?_
  refine C.cfalse rfl ?_
  refine C.seq ?_
  refine C.region ?_
  refine R.ev rfl (E.move rfl) ?_
  refine R.ev rfl (E.lss rfl rfl) ?_
  refine R.ev rfl (E.move rfl) ?_
  refine R.split 13 rfl (fun h13 => ?_) (fun h13 => ?_)
  · refine R.gskip rfl rfl rfl ?_
    refine R.gskip rfl rfl rfl ?_
    refine R.ev rfl (E.pickT rfl rfl) ?_
    refine R.ev rfl (E.assign rfl) ?_
    refine R.done ?_
    refine X.keep [(0, _), (2, _), (4, _), (10, _)] ⟨rfl, rfl, rfl, rfl, trivial⟩ ?_
    refine X.next ?_
    refine C.ctrue rfl ?_
    refine C.seq ?_
    refine C.region ?_
    refine R.ev rfl (E.assign rfl) ?_
    refine R.done ?_
    refine X.keep [(6, _)] ⟨rfl, trivial⟩ ?_
    refine X.next ?_
    refine C.ret ?_
    refine X.blockRet ?_
    refine X.thenRet ?_
    refine X.ret1 rfl rfl ?_
    have hE : offerE sz L a n = 2 := by rw [offerE, if_pos]; first | (simp_all; done) | (simp_all; omega)
    exact ⟨by rw [hE], _, by rw [offerL, hE, if_neg (by decide)]; exact Win.mk' hr, hs.to.join⟩
  · refine R.gyes rfl rfl ?_
    refine R.ev rfl (E.move rfl) ?_
    refine R.gyes rfl rfl ?_
    refine R.ev rfl (E.gtr rfl rfl) ?_
    refine R.ev rfl (E.pickF rfl rfl) ?_
    refine R.ev rfl (E.assign rfl) ?_
    refine R.done ?_
    refine X.keep [(0, _), (2, _), (4, _), (10, _)] ⟨rfl, rfl, rfl, rfl, trivial⟩ ?_
    refine X.next ?_
    refine C.cbool rfl (fun h10 => ?_) (fun h10 => ?_)
    · refine C.seq ?_
      refine C.region ?_
      refine R.ev rfl (E.assign rfl) ?_
      refine R.done ?_
      refine X.keep [(6, _)] ⟨rfl, trivial⟩ ?_
      refine X.next ?_
      refine C.ret ?_
      refine X.blockRet ?_
      refine X.thenRet ?_
      refine X.ret1 rfl rfl ?_
      have hE : offerE sz L a n = 2 := by rw [offerE, if_pos]; first | (simp_all; done) | (simp_all; omega)
      exact ⟨by rw [hE], _, by rw [offerL, hE, if_neg (by decide)]; exact Win.mk' hr, hs.to.join⟩
    · refine C.seq ?_
      refine C.region ?_
      have hn : ¬ (n < 0 ∨ 65536 < n) := by first | (simp_all; done) | (simp_all; omega)
      refine R.ev rfl (E.move rfl) ?_
      refine R.ev rfl (E.loadRowC rfl Tryd.underlying37 rfl Tryd.sz37 (by first | exact ⟨hs.ldA, by first | rfl | assumption | exact encV_len _ | exact Enc.len _ | exact len_ub (by assumption)⟩ | exact ⟨hs.ldP rfl, by first | rfl | assumption | exact encV_len _ | exact Enc.len _ | exact len_ub (by assumption)⟩ | exact ⟨hs.ldM rfl rfl, by first | rfl | assumption | exact encV_len _ | exact Enc.len _ | exact len_ub (by assumption)⟩ | exact ⟨hs.ldM (by assumption) (by first | rfl | assumption), by first | rfl | assumption | exact encV_len _ | exact Enc.len _ | exact len_ub (by assumption)⟩ | exact ⟨by assumption, by first | rfl | assumption | exact encV_len _ | exact Enc.len _ | exact len_ub (by assumption)⟩ | exact hs.ldp | exact At.partC (by assumption))) ?_
      refine R.call ⟨_, _, Tryd.func40, rfl, by kernel_rfl⟩ rfl rfl (find_any a hs) ?_
      rintro _ w5 ⟨rfl, hs⟩
      refine R.ev rfl ((E.geq rfl rfl).isB (c := has a L) idx_ge) ?_
      refine R.ev rfl (E.assign rfl) ?_
      refine R.done ?_
      refine X.keep [(0, _), (2, _), (4, _), (17, _)] ⟨rfl, rfl, rfl, rfl, trivial⟩ ?_
      refine X.next ?_
      refine C.cbool rfl (fun h17 => ?_) (fun h17 => ?_)
      · refine C.seq ?_
        refine C.region ?_
        refine R.ev rfl (E.assign rfl) ?_
        refine R.done ?_
        refine X.keep [(6, _)] ⟨rfl, trivial⟩ ?_
        refine X.next ?_
        refine C.ret ?_
        refine X.blockRet ?_
        refine X.thenRet ?_
        refine X.ret1 rfl rfl ?_
        have hE : offerE sz L a n = 7 := by rw [offerE, if_neg hn, if_pos h17]
        exact ⟨by rw [hE], _, by rw [offerL, hE, if_neg (by decide)]; exact Win.mk' hr, hs.to.join⟩
      · refine C.seq ?_
        refine C.drawn (SatS hs) ([5], [0, 2, 3, 4, 6, 7]) (by kernel_rfl) ?_
        have hs := hs.drew
        refine D.evP 0 rfl (by kernel_rfl) rfl (fun _ => hs.to) (fun _ => E.move rfl) ?_
        refine D.evP 2 rfl (by kernel_rfl) rfl (fun _ => hs.to) (fun _ => E.move rfl) ?_
        refine D.evP 3 rfl (by kernel_rfl) rfl (fun _ => hs.to) (fun _ => E.nilCheck rfl) ?_
        first | refine D.evP 4 rfl (by kernel_rfl) rfl (fun _ => hs.to) (fun _ => E.fieldAddr0 0 rfl Tryd.underlying78 rfl Tryd.sz3 rfl) ?_ | refine D.evP 4 rfl (by kernel_rfl) rfl (fun _ => hs.to) (fun _ => E.fieldAddrN 0 rfl Tryd.underlying78 rfl Tryd.sz3 rfl) ?_
        refine D.ev 5 rfl (by kernel_rfl) rfl hs.to (fun _ hS => E.load1 rfl Tryd.underlying3 rfl (by first | exact hS.ldc | exact hS.ld rfl | exact hS.ld (by assumption) | exact by assumption | exact At.cellC (by assumption) | exact At.cellC ((by assumption : ∀ w', Sat _ w' _ → At w' _ _ _) _ hS) | exact (by assumption : ∀ w', Sat _ w' _ → World.cell? w' _ = some _) _ hS)) ?_
        refine D.act 1 rfl (by kernel_rfl) ?_
        refine R.call ⟨_, _, Tryd.func41, rfl, by kernel_rfl⟩ rfl rfl (count_any hs) ?_
        rintro _ w7 ⟨rfl, hs⟩
        refine D.back hs.to ?_
        refine D.evP 6 rfl (by kernel_rfl) rfl (fun _ => hs.to) (fun _ => E.geq rfl rfl) ?_
        refine D.evP 7 rfl (by kernel_rfl) rfl (fun _ => hs.to) (fun _ => E.assign rfl) ?_
        refine D.done rfl (by kernel_rfl) ?_
        refine X.keep [(0, _), (2, _), (4, _), (22, _)] ⟨rfl, rfl, rfl, rfl, trivial⟩ ?_
        refine X.next ?_
        refine C.cdec rfl (fun h22 => ?_) (fun h22 => ?_)
        · refine C.seq ?_
          refine C.region ?_
          refine R.ev rfl (E.assign rfl) ?_
          refine R.done ?_
          refine X.keep [(6, _)] ⟨rfl, trivial⟩ ?_
          refine X.next ?_
          refine C.ret ?_
          refine X.blockRet ?_
          refine X.thenRet ?_
          refine X.ret1 rfl rfl ?_
          have hE : offerE sz L a n = 25 := by rw [offerE, if_neg hn, h17, if_neg (by decide), if_pos h22]
          exact ⟨by rw [hE], _, by rw [offerL, hE, if_neg (by decide)]; exact Win.mk' hr, hs.to.join⟩
        · refine C.skip ?_
          refine X.blockNormal ?_
          refine X.next ?_
          refine C.seq ?_
          refine C.drawn (SatS hs) ([4, 5], [0, 1, 2, 3, 6, 7, 10, 11]) (by kernel_rfl) ?_
          have hs := hs.drew
          refine D.evP 0 rfl (by kernel_rfl) rfl (fun _ => hs.to) (fun _ => E.move rfl) ?_
          refine D.evP 1 rfl (by kernel_rfl) rfl (fun _ => hs.to) (fun _ => E.move rfl) ?_
          refine D.evP 2 rfl (by kernel_rfl) rfl (fun _ => hs.to) (fun _ => E.nilCheck rfl) ?_
          first | refine D.evP 3 rfl (by kernel_rfl) rfl (fun _ => hs.to) (fun _ => E.fieldAddr0 1 rfl Tryd.underlying78 rfl Tryd.sz76 rfl) ?_ | refine D.evP 3 rfl (by kernel_rfl) rfl (fun _ => hs.to) (fun _ => E.fieldAddrN 1 rfl Tryd.underlying78 rfl Tryd.sz76 rfl) ?_
          refine D.evP 6 rfl (by kernel_rfl) rfl (fun _ => hs.to) (fun _ => E.move rfl) ?_
          refine D.ev 4 rfl (by kernel_rfl) rfl hs.to (fun _ hS => E.load1 rfl Tryd.underlying76 rfl (by first | exact hS.ldc | exact hS.ld rfl | exact hS.ld (by assumption) | exact by assumption | exact At.cellC (by assumption) | exact At.cellC ((by assumption : ∀ w', Sat _ w' _ → At w' _ _ _) _ hS) | exact (by assumption : ∀ w', Sat _ w' _ → World.cell? w' _ = some _) _ hS)) ?_
          refine D.ev 5 rfl (by kernel_rfl) rfl hs.to (fun _ hS => E.loadRowC rfl Tryd.underlying37 rfl Tryd.sz37 (by first | exact ⟨hS.ldA, by first | rfl | assumption | exact encV_len _ | exact Enc.len _ | exact len_ub (by assumption)⟩ | exact ⟨hS.ldP rfl, by first | rfl | assumption | exact encV_len _ | exact Enc.len _ | exact len_ub (by assumption)⟩ | exact ⟨hS.ldM rfl rfl, by first | rfl | assumption | exact encV_len _ | exact Enc.len _ | exact len_ub (by assumption)⟩ | exact ⟨hS.ldM (by assumption) (by first | rfl | assumption), by first | rfl | assumption | exact encV_len _ | exact Enc.len _ | exact len_ub (by assumption)⟩ | exact ⟨by assumption, by first | rfl | assumption | exact encV_len _ | exact Enc.len _ | exact len_ub (by assumption)⟩ | exact ⟨(by assumption : ∀ w', Sat _ w' _ → At w' _ _ _) _ hS, by first | rfl | assumption | exact encV_len _ | exact Enc.len _ | exact len_ub (by assumption)⟩ | exact hS.ldp | exact At.partC (by assumption) | exact At.partC ((by assumption : ∀ w', Sat _ w' _ → At w' _ _ _) _ hS))) ?_
          refine D.evP 7 rfl (by kernel_rfl) rfl (fun _ => hs.to) (fun _ => E.buildG (r := encO ⟨a, n, 0⟩) rfl Tryd.underlying81 Tryd.zr81 Tryd.ql81 (by kernel_rfl) (by kernel_rfl) ⟨⟨_, rfl, by first | rfl | exact vsz _ | simp [Value.cells, *]⟩, ⟨_, rfl, by first | rfl | exact vsz _ | simp [Value.cells, *]⟩, ⟨_, rfl, by first | rfl | exact vsz _ | simp [Value.cells, *]⟩, trivial⟩ (by first | rfl | simp [setF, fieldsOf, Value.cells])) ?_
          refine D.act 8 rfl (by kernel_rfl) ?_
          refine R.buildSliceA rfl Tryd.underlying76 Tryd.sz81 Tryd.zr81 rfl (by first | rfl | assumption | exact encV_len _ | exact Enc.len _ | simp [*]) (by decide) (by decide) ?_
          intro b38 w38 n38
          have hs := hs.new n38
          refine D.back hs.to ?_
          refine D.act 9 rfl (by kernel_rfl) ?_
          refine R.capp1 (⟨a, n, 0⟩) hs rfl rfl Tryd.underlying76 Tryd.by81 (by rfl) rfl (by first | exact hs.ldA | exact hs.ldP rfl | exact by assumption) (by decide) (by first | omega | (simp only [List.length_append, List.length_cons, List.length_nil] at *; omega)) (by first | omega | (simp only [List.length_append, List.length_cons, List.length_nil] at *; omega)) ?_
          intro v39 w39 F39 r39 hs
          refine D.backT (by kernel_rfl) ?_
          refine D.evP 10 rfl (by kernel_rfl) rfl (np (by kernel_rfl)) (fun _ => E.nilCheck rfl) ?_
          first | refine D.evP 11 rfl (by kernel_rfl) rfl (np (by kernel_rfl)) (fun _ => E.fieldAddr0 1 rfl Tryd.underlying78 rfl Tryd.sz76 rfl) ?_ | refine D.evP 11 rfl (by kernel_rfl) rfl (np (by kernel_rfl)) (fun _ => E.fieldAddrN 1 rfl Tryd.underlying78 rfl Tryd.sz76 rfl) ?_
          refine D.act 12 rfl (by kernel_rfl) ?_
          refine R.cstore1 hs rfl rfl Tryd.sz76 (by first | decide | simp [*]) (by first | rfl | exact OneC.one | exact KRow.oneC' (by assumption)) ?_
          intro w9_12 hs
          try simp only [List.set_cons_zero, List.set_cons_succ] at hs
          refine D.backT (by kernel_rfl) ?_
          refine D.done rfl (by kernel_rfl) ?_
          refine X.keep [] trivial ?_
          refine X.next ?_
          refine C.seq ?_
          refine C.region ?_
          refine R.ev rfl (E.assign rfl) ?_
          refine R.done ?_
          refine X.keep [(6, _)] ⟨rfl, trivial⟩ ?_
          refine X.next ?_
          refine C.ret ?_
          refine X.ret1 rfl rfl ?_
          have hE : offerE sz L a n = 0 := by rw [offerE, if_neg hn, h17, if_neg (by decide), if_neg h22]
          exact ⟨by rw [hE], _, by rw [offerL, hE, if_pos rfl]; exact Win.mk' r39, hs.to.join⟩

/-- Answer: the error and the offers -/
def answerE (L : List Off) (a : Vec 32) (n : Int) : Int := match L.find? (isId a) with
  | none => 8
  | some o => if n < 1 ∨ 5 < n then 11 else if may o.out.1 n.toNat then 0 else 10
def setOut (a : Vec 32) (n : Int) : List Off → List Off
  | [] => []
  | o :: L => if isId a o then { o with out := Fin.ofNat 6 n.toNat } :: L else o :: setOut a n L
def answerL (L : List Off) (a : Vec 32) (n : Int) : List Off := if answerE L a n = 0 then setOut a n L else L
theorem setOut_at {a : Vec 32} {n : Int} : ∀ {L : List Off} {i : Nat} {o : Off}, L[i]? = some o → isId a o = true → (∀ j, j < i → ∀ z, L[j]? = some z → isId a z = false) → setOut a n L = L.set i { o with out := Fin.ofNat 6 n.toNat }
  | [], i, o, h, _, _ => by simp at h
  | z :: L, 0, o, h, hp, _ => by
    simp at h; subst h; simp only [setOut, hp, if_true, List.set_cons_zero]
  | z :: L, i + 1, o, h, hp, hno => by
    have hz := hno 0 (by omega) z rfl
    rw [setOut, if_neg (by rw [hz]; decide), List.set_cons_succ, setOut_at (by simpa using h) hp (fun j hj y hy => hno (j + 1) (by omega) y (by simpa using hy))]
theorem find_at {q : Off → Bool} {L : List Off} {i : Nat} {o : Off} (h : L[i]? = some o) (hp : q o = true) (hno : ∀ j, j < i → ∀ z, L[j]? = some z → q z = false) : L.find? q = some o := by
  induction L generalizing i with
  | nil => simp at h
  | cons z L ih =>
    cases i with
    | zero => simp at h; subst h; simp [hp]
    | succ i =>
      have hz := hno 0 (by omega) z rfl
      rw [List.find?_cons_of_neg (by rw [hz]; decide)]
      exact ih (by simpa using h) (fun j hj y hy => hno (j + 1) (by omega) y (by simpa using hy))
theorem find_no {q : Off → Bool} {L : List Off} (h : idxP q L < 0) : L.find? q = none := by
  rw [List.find?_eq_none]
  intro y hy
  rw [idxP_neg (idxP_lt h) y hy]; decide
theorem answer_any (a : Vec 32) (n : Int) (hs : Sat K w (F :: Rs)) [hw : Win p sz L F] [HasChg K] : Ret Tryd.prog 18 #[ptr p, idV a.1, .int .i64 n] w fun r w' => r = .int .i64 (answerE L a n) ∧ ∃ F', Win p sz (answerL L a n) F' ∧ Sat K w' (F' :: Rs) := by
  obtain ⟨v, G, rfl, hr⟩ := hw.ex
  obtain ⟨ad, cap, rfl, hc, hcm, had⟩ := hr.val
  have hs := hs.cut
  have e1 := encV_len a
  refine Ret.enter (n := 45) (args := [ptr p, idV a.1, .int .i64 n]) Tryd.func18 rfl rfl ?_
  refine C.keep [(0, _), (1, _), (2, _)] ⟨rfl, rfl, rfl, trivial⟩ ?_
  refine C.seq ?_
  refine C.region ?_
  refine R.sboxA hs rfl rfl ?_
  intro b4 w4 hs
  refine R.ev rfl (E.assign rfl) ?_
  refine R.done ?_
  refine X.keep [(0, _), (2, _), (4, _)] ⟨rfl, rfl, rfl, trivial⟩ ?_
  refine X.next ?_
  refine C.seq ?_
  refine C.seq ?_
  refine C.region ?_
  refine R.ev rfl (E.move rfl) ?_
  refine R.ev rfl (E.eqlNilF rfl rfl Tryd.underlying25) ?_
  refine R.done ?_
  refine X.keep [(0, _), (2, _), (4, _), (9, _)] ⟨rfl, rfl, rfl, rfl, trivial⟩ ?_
  refine X.next ?_
  refine C.cfalse rfl ?_
  refine C.skip ?_
  refine X.next ?_
  refine C.seq ?_
  refine C.region ?_
  refine R.ev rfl (E.move rfl) ?_
  refine R.ev rfl (E.loadRowC rfl Tryd.underlying37 rfl Tryd.sz37 (by first | exact ⟨hs.ldA, by first | rfl | assumption | exact encV_len _ | exact Enc.len _ | exact len_ub (by assumption)⟩ | exact ⟨hs.ldP rfl, by first | rfl | assumption | exact encV_len _ | exact Enc.len _ | exact len_ub (by assumption)⟩ | exact ⟨hs.ldM rfl rfl, by first | rfl | assumption | exact encV_len _ | exact Enc.len _ | exact len_ub (by assumption)⟩ | exact ⟨hs.ldM (by assumption) (by first | rfl | assumption), by first | rfl | assumption | exact encV_len _ | exact Enc.len _ | exact len_ub (by assumption)⟩ | exact ⟨by assumption, by first | rfl | assumption | exact encV_len _ | exact Enc.len _ | exact len_ub (by assumption)⟩ | exact hs.ldp | exact At.partC (by assumption))) ?_
  refine R.call ⟨_, _, Tryd.func40, rfl, by kernel_rfl⟩ rfl rfl (find_any a hs) ?_
  rintro _ w3 ⟨rfl, hs⟩
  refine R.ev rfl (E.assign rfl) ?_
  refine R.done ?_
  refine X.keep [(0, _), (2, _), (7, _)] ⟨rfl, rfl, rfl, trivial⟩ ?_
  refine X.next ?_
  refine C.seq ?_
  refine C.block ?_
  refine C.seq ?_
  refine C.region ?_
  refine R.ev rfl (E.move rfl) ?_
  refine R.ev rfl (E.lss rfl rfl) ?_
  refine R.ev rfl (E.assign rfl) ?_
  refine R.done ?_
  refine X.keep [(0, _), (2, _), (7, _), (13, _)] ⟨rfl, rfl, rfl, rfl, trivial⟩ ?_
  refine X.next ?_
  refine C.cdec rfl (fun h13 => ?_) (fun h13 => ?_)
  · refine C.seq ?_
    refine C.region ?_
    refine R.ev rfl (E.assign rfl) ?_
    refine R.done ?_
    refine X.keep [(6, _)] ⟨rfl, trivial⟩ ?_
    refine X.next ?_
    refine C.ret ?_
    refine X.blockRet ?_
    refine X.thenRet ?_
    refine X.ret1 rfl rfl ?_
    have hE : answerE L a n = 8 := by rw [answerE, find_no h13]
    exact ⟨by rw [hE], _, by rw [answerL, hE, if_neg (by decide)]; exact Win.mk' hr, hs.to.join⟩
  · refine C.seq ?_
    refine C.region ?_
    obtain ⟨i, o, hi, ho, hp, hno⟩ := idxP_ge (Int.not_lt.1 h13)
    rw [hi]
    have hfi := find_at ho hp hno
    refine R.ev rfl (E.move rfl) ?_
    refine R.ev rfl (E.lss rfl rfl) ?_
    refine R.ev rfl (E.move rfl) ?_
    refine R.split 19 rfl (fun h19 => ?_) (fun h19 => ?_)
    · refine R.gskip rfl rfl rfl ?_
      refine R.gskip rfl rfl rfl ?_
      refine R.ev rfl (E.pickT rfl rfl) ?_
      refine R.ev rfl (E.assign rfl) ?_
      refine R.done ?_
      refine X.keep [(0, _), (2, _), (7, _), (16, _)] ⟨rfl, rfl, rfl, rfl, trivial⟩ ?_
      refine X.next ?_
      refine C.ctrue rfl ?_
      refine C.seq ?_
      refine C.region ?_
      refine R.ev rfl (E.assign rfl) ?_
      refine R.done ?_
      refine X.keep [(6, _)] ⟨rfl, trivial⟩ ?_
      refine X.next ?_
      refine C.ret ?_
      refine X.blockRet ?_
      refine X.thenRet ?_
      refine X.ret1 rfl rfl ?_
      have hE : answerE L a n = 11 := by simp only [answerE, hfi]; rw [if_pos]; first | (simp_all; done) | (simp_all; omega)
      exact ⟨by rw [hE], _, by rw [answerL, hE, if_neg (by decide)]; exact Win.mk' hr, hs.to.join⟩
    · refine R.gyes rfl rfl ?_
      refine R.ev rfl (E.move rfl) ?_
      refine R.gyes rfl rfl ?_
      refine R.ev rfl (E.gtr rfl rfl) ?_
      refine R.ev rfl (E.pickF rfl rfl) ?_
      refine R.ev rfl (E.assign rfl) ?_
      refine R.done ?_
      refine X.keep [(0, _), (2, _), (7, _), (16, _)] ⟨rfl, rfl, rfl, rfl, trivial⟩ ?_
      refine X.next ?_
      refine C.cbool rfl (fun h16 => ?_) (fun h16 => ?_)
      · refine C.seq ?_
        refine C.region ?_
        refine R.ev rfl (E.assign rfl) ?_
        refine R.done ?_
        refine X.keep [(6, _)] ⟨rfl, trivial⟩ ?_
        refine X.next ?_
        refine C.ret ?_
        refine X.blockRet ?_
        refine X.thenRet ?_
        refine X.ret1 rfl rfl ?_
        have hE : answerE L a n = 11 := by simp only [answerE, hfi]; rw [if_pos]; first | (simp_all; done) | (simp_all; omega)
        exact ⟨by rw [hE], _, by rw [answerL, hE, if_neg (by decide)]; exact Win.mk' hr, hs.to.join⟩
      · refine C.seq ?_
        refine C.region ?_
        have hn : ¬ (n < 1 ∨ 5 < n) := by first | (simp_all; done) | (simp_all; omega)
        have hil := (List.getElem?_eq_some_iff.1 ho).1
        obtain ⟨b, rfl⟩ := had (by intro e; rw [e] at hil; simp at hil)
        obtain ⟨y, bk, off, hy, my, ly, hbk, Ay⟩ := hs.el (i := i) (ad := some ⟨b, 0, none⟩) (n := L.length) (c := cap) hil
        simp only [Option.some.injEq, Addr.mk.injEq, and_true] at hbk
        obtain ⟨rfl, rfl⟩ := hbk
        rw [ho] at hy
        simp only [Option.some.injEq] at hy
        subst hy
        have a33 := Ay _ hs 33 _ (encO_out o)
        have hct := chg_at hs (i := o.out.1) (j := n.toNat) o.out.2 (by omega)
        refine R.ev rfl (E.move rfl) ?_
        refine R.ev rfl (E.nilCheck rfl) ?_
        first | refine R.ev rfl (E.fieldAddr0 1 rfl Tryd.underlying78 rfl Tryd.sz76 rfl) ?_ | refine R.ev rfl (E.fieldAddrN 1 rfl Tryd.underlying78 rfl Tryd.sz76 rfl) ?_
        refine R.ev rfl (E.load1 rfl Tryd.underlying76 rfl (by first | exact hs.ldc | exact hs.ld rfl | exact hs.ld (by assumption) | exact by assumption | exact At.cellC (by assumption))) ?_
        refine R.ev rfl (E.move rfl) ?_
        refine R.ev rfl (E.indexAddr rfl rfl Tryd.underlying76 Tryd.sz81 rfl (by first | omega | decide)) ?_
        first | refine R.ev rfl (E.fieldAddr0 33 rfl Tryd.underlying81 rfl Tryd.sz3 rfl) ?_ | refine R.ev rfl (E.fieldAddrN 33 rfl Tryd.underlying81 rfl Tryd.sz3 rfl) ?_
        refine R.ev rfl (E.load1 rfl Tryd.underlying3 rfl (by first | exact hs.ldc | exact hs.ld rfl | exact hs.ld (by assumption) | exact by assumption | exact At.cellC (by assumption))) ?_
        refine R.ev rfl (E.move rfl) ?_
        refine R.ev rfl (E.indexAddrA rfl rfl Tryd.underlying85 Tryd.sz84 rfl o.out.2) ?_
        refine R.ev rfl (E.indexAddrA (i := n.toNat) rfl rfl Tryd.underlying84 Tryd.sz4 (by omega) (by omega)) ?_
        refine R.ev rfl (E.load1 rfl Tryd.underlying4 rfl (by first | exact hs.ldc | exact hs.ld rfl | exact hs.ld (by assumption) | exact by assumption | exact At.cellC (by assumption))) ?_
        refine R.ev rfl ((E.not rfl).isB (c := !(may o.out.1 n.toNat)) rfl) ?_
        refine R.ev rfl (E.assign rfl) ?_
        refine R.done ?_
        refine X.keep [(0, _), (2, _), (7, _), (23, _)] ⟨rfl, rfl, rfl, rfl, trivial⟩ ?_
        refine X.next ?_
        refine C.cbool rfl (fun h23 => ?_) (fun h23 => ?_)
        · refine C.seq ?_
          refine C.region ?_
          refine R.ev rfl (E.assign rfl) ?_
          refine R.done ?_
          refine X.keep [(6, _)] ⟨rfl, trivial⟩ ?_
          refine X.next ?_
          refine C.ret ?_
          refine X.blockRet ?_
          refine X.thenRet ?_
          refine X.ret1 rfl rfl ?_
          have hE : answerE L a n = 10 := by simp only [answerE, hfi]; rw [if_neg hn, if_neg]; simpa using h23
          exact ⟨by rw [hE], _, by rw [answerL, hE, if_neg (by decide)]; exact Win.mk' hr, hs.to.join⟩
        · refine C.skip ?_
          refine X.blockNormal ?_
          refine X.next ?_
          refine C.seq ?_
          refine C.region ?_
          refine R.ev rfl (E.move rfl) ?_
          refine R.ev rfl (E.nilCheck rfl) ?_
          first | refine R.ev rfl (E.fieldAddr0 1 rfl Tryd.underlying78 rfl Tryd.sz76 rfl) ?_ | refine R.ev rfl (E.fieldAddrN 1 rfl Tryd.underlying78 rfl Tryd.sz76 rfl) ?_
          refine R.ev rfl (E.load1 rfl Tryd.underlying76 rfl (by first | exact hs.ldc | exact hs.ld rfl | exact hs.ld (by assumption) | exact by assumption | exact At.cellC (by assumption))) ?_
          refine R.ev rfl (E.move rfl) ?_
          refine R.ev rfl (E.move rfl) ?_
          refine R.ev rfl (E.indexAddr rfl rfl Tryd.underlying76 Tryd.sz81 rfl (by first | omega | decide)) ?_
          first | refine R.ev rfl (E.fieldAddr0 33 rfl Tryd.underlying81 rfl Tryd.sz3 rfl) ?_ | refine R.ev rfl (E.fieldAddrN 33 rfl Tryd.underlying81 rfl Tryd.sz3 rfl) ?_
          refine R.ssetF (el' := { o with out := Fin.ofNat 6 n.toNat }) i (hs.front (F := G)) hr rfl rfl Tryd.sz3 ho ?_ (off := 33) (by omega) (by decide) rfl ?_
          · have : ((Fin.ofNat 6 n.toNat).1 : Int) = n := by simp [Fin.ofNat]; omega
            simp only [encO, this]
            rw [List.set_append_right _ _ (by simp [o.id.2])]
            simp [o.id.2]
          intro w10 F10 r10 hs1
          have hs := hs.back (F := G) hs1
          refine R.done ?_
          refine X.keep [] trivial ?_
          refine X.next ?_
          refine C.seq ?_
          refine C.region ?_
          refine R.ev rfl (E.assign rfl) ?_
          refine R.done ?_
          refine X.keep [(6, _)] ⟨rfl, trivial⟩ ?_
          refine X.next ?_
          refine C.ret ?_
          refine X.ret1 rfl rfl ?_
          have hE : answerE L a n = 0 := by simp only [answerE, hfi]; rw [if_neg hn, if_pos]; simpa using h23
          exact ⟨by rw [hE], _, by rw [answerL, hE, if_pos rfl, setOut_at ho hp hno]; exact Win.mk' r10, hs.to.join⟩

theorem outcome_any (a : Vec 32) (hs : Sat K w Hs) [hw : WinIn p sz L Hs] : Ret Tryd.prog 31 #[ptr p, idV a.1] w fun r w' => r = (match L.find? (isId a) with | none => .tuple #[.int .i64 0, .bool false] | some o => .tuple #[.int .i64 (o.out.1 : Nat), .bool true]) ∧ Sat K w' Hs := by
  obtain ⟨v, G, _, hr, _⟩ := hw.ex
  obtain ⟨ad, cap, rfl, hc, hcm, had⟩ := hr.val
  have e1 := encV_len a
  refine Ret.enter (n := 22) (args := [ptr p, idV a.1]) Tryd.func31 rfl rfl ?_
  refine C.keep [(0, _), (1, _)] ⟨rfl, rfl, trivial⟩ ?_
  refine C.seq ?_
  refine C.region ?_
  refine R.sboxA hs rfl rfl ?_
  intro b3 w3 hs
  refine R.ev rfl (E.assign rfl) ?_
  refine R.ev rfl (E.assign rfl) ?_
  refine R.done ?_
  refine X.keep [(0, _), (3, _)] ⟨rfl, rfl, trivial⟩ ?_
  refine X.next ?_
  refine C.seq ?_
  refine C.seq ?_
  refine C.region ?_
  refine R.ev rfl (E.move rfl) ?_
  refine R.ev rfl (E.eqlNilF rfl rfl Tryd.underlying25) ?_
  refine R.done ?_
  refine X.keep [(0, _), (3, _), (8, _)] ⟨rfl, rfl, rfl, trivial⟩ ?_
  refine X.next ?_
  refine C.cfalse rfl ?_
  refine C.skip ?_
  refine X.next ?_
  refine C.seq ?_
  refine C.region ?_
  refine R.ev rfl (E.move rfl) ?_
  refine R.ev rfl (E.loadRowC rfl Tryd.underlying37 rfl Tryd.sz37 (by first | exact ⟨hs.ldA, by first | rfl | assumption | exact encV_len _ | exact Enc.len _ | exact len_ub (by assumption)⟩ | exact ⟨hs.ldP rfl, by first | rfl | assumption | exact encV_len _ | exact Enc.len _ | exact len_ub (by assumption)⟩ | exact ⟨hs.ldM rfl rfl, by first | rfl | assumption | exact encV_len _ | exact Enc.len _ | exact len_ub (by assumption)⟩ | exact ⟨hs.ldM (by assumption) (by first | rfl | assumption), by first | rfl | assumption | exact encV_len _ | exact Enc.len _ | exact len_ub (by assumption)⟩ | exact ⟨by assumption, by first | rfl | assumption | exact encV_len _ | exact Enc.len _ | exact len_ub (by assumption)⟩ | exact hs.ldp | exact At.partC (by assumption))) ?_
  refine R.call ⟨_, _, Tryd.func40, rfl, by kernel_rfl⟩ rfl rfl (find_any a hs) ?_
  rintro _ w3 ⟨rfl, hs⟩
  refine R.ev rfl (E.assign rfl) ?_
  refine R.done ?_
  refine X.keep [(0, _), (6, _)] ⟨rfl, rfl, trivial⟩ ?_
  refine X.next ?_
  refine C.seq ?_
  refine C.seq ?_
  refine C.region ?_
  refine R.ev rfl (E.move rfl) ?_
  refine R.ev rfl (E.lss rfl rfl) ?_
  refine R.done ?_
  refine X.keep [(0, _), (6, _), (13, _)] ⟨rfl, rfl, rfl, trivial⟩ ?_
  refine X.next ?_
  refine C.cdec rfl (fun h13 => ?_) (fun h13 => ?_)
  · refine C.seq ?_
    refine C.region ?_
    refine R.ev rfl (E.assign rfl) ?_
    refine R.ev rfl (E.assign rfl) ?_
    refine R.done ?_
    refine X.keep [(4, _), (5, _)] ⟨rfl, rfl, trivial⟩ ?_
    refine X.next ?_
    refine C.ret ?_
    refine X.thenRet ?_
    refine X.ret2 rfl rfl rfl ?_
    exact ⟨by rw [find_no h13], hs.to⟩
  · refine C.skip ?_
    refine X.next ?_
    refine C.seq ?_
    refine C.region ?_
    obtain ⟨i, o, hi, ho, hp, hno⟩ := idxP_ge (Int.not_lt.1 h13)
    rw [hi]
    have hfi := find_at ho hp hno
    have hil := (List.getElem?_eq_some_iff.1 ho).1
    obtain ⟨y, bk, off, hy, my, ly, rfl, Ay⟩ := hs.el (i := i) (ad := ad) (n := L.length) (c := cap) hil
    rw [ho] at hy
    simp only [Option.some.injEq] at hy
    subst hy
    have a33 := Ay _ hs 33 _ (encO_out o)
    refine R.ev rfl (E.move rfl) ?_
    refine R.ev rfl (E.nilCheck rfl) ?_
    first | refine R.ev rfl (E.fieldAddr0 1 rfl Tryd.underlying78 rfl Tryd.sz76 rfl) ?_ | refine R.ev rfl (E.fieldAddrN 1 rfl Tryd.underlying78 rfl Tryd.sz76 rfl) ?_
    refine R.ev rfl (E.load1 rfl Tryd.underlying76 rfl (by first | exact hs.ldc | exact hs.ld rfl | exact hs.ld (by assumption) | exact by assumption | exact At.cellC (by assumption))) ?_
    refine R.ev rfl (E.move rfl) ?_
    refine R.ev rfl (E.indexAddr rfl rfl Tryd.underlying76 Tryd.sz81 rfl (by first | omega | decide)) ?_
    first | refine R.ev rfl (E.fieldAddr0 33 rfl Tryd.underlying81 rfl Tryd.sz3 rfl) ?_ | refine R.ev rfl (E.fieldAddrN 33 rfl Tryd.underlying81 rfl Tryd.sz3 rfl) ?_
    refine R.ev rfl (E.load1 rfl Tryd.underlying3 rfl (by first | exact hs.ldc | exact hs.ld rfl | exact hs.ld (by assumption) | exact by assumption | exact At.cellC (by assumption))) ?_
    refine R.ev rfl (E.assign rfl) ?_
    refine R.ev rfl (E.assign rfl) ?_
    refine R.done ?_
    refine X.keep [(4, _), (5, _)] ⟨rfl, rfl, trivial⟩ ?_
    refine X.next ?_
    refine C.ret ?_
    refine X.ret2 rfl rfl rfl ?_
    exact ⟨by rw [hfi], hs.to⟩
theorem room_any (hs : Sat K w Hs) [hw : WinIn p sz L Hs] (hz : isSz sz = true) : Ret Tryd.prog 23 #[ptr p] w fun r w' => r = .int .i64 (max 0 (sz - cnt L)) ∧ Sat K w' Hs := by
  obtain ⟨v, G, _, hr, _⟩ := hw.ex
  obtain ⟨ad, cap, rfl, hc, hcm, had⟩ := hr.val
  unfold maxLen at hcm
  have hcl := cnt_le L
  have hz1 : 1 ≤ sz ∧ sz ≤ 64 := by simpa [isSz] using hz
  refine Ret.enter (n := 13) (args := [ptr p]) Tryd.func23 rfl rfl ?_
  refine C.keep [(0, _)] ⟨rfl, trivial⟩ ?_
  refine C.seq ?_
  refine C.region ?_
  refine R.ev rfl (E.assign rfl) ?_
  refine R.done ?_
  refine X.keep [(0, _)] ⟨rfl, trivial⟩ ?_
  refine X.next ?_
  refine C.seq ?_
  refine C.seq ?_
  refine C.region ?_
  refine R.ev rfl (E.move rfl) ?_
  refine R.ev rfl (E.eqlNilF rfl rfl Tryd.underlying25) ?_
  refine R.done ?_
  refine X.keep [(0, _), (4, _)] ⟨rfl, rfl, trivial⟩ ?_
  refine X.next ?_
  refine C.cfalse rfl ?_
  refine C.skip ?_
  refine X.next ?_
  refine C.seq ?_
  refine C.drawn (SatS hs) ([3], [0, 1, 2, 4, 6, 7, 8]) (by kernel_rfl) ?_
  have hs := hs.drew
  refine D.evP 0 rfl (by kernel_rfl) rfl (fun _ => hs.to) (fun _ => E.move rfl) ?_
  refine D.evP 1 rfl (by kernel_rfl) rfl (fun _ => hs.to) (fun _ => E.nilCheck rfl) ?_
  first | refine D.evP 2 rfl (by kernel_rfl) rfl (fun _ => hs.to) (fun _ => E.fieldAddr0 0 rfl Tryd.underlying78 rfl Tryd.sz3 rfl) ?_ | refine D.evP 2 rfl (by kernel_rfl) rfl (fun _ => hs.to) (fun _ => E.fieldAddrN 0 rfl Tryd.underlying78 rfl Tryd.sz3 rfl) ?_
  refine D.evP 4 rfl (by kernel_rfl) rfl (fun _ => hs.to) (fun _ => E.move rfl) ?_
  refine D.ev 3 rfl (by kernel_rfl) rfl hs.to (fun _ hS => E.load1 rfl Tryd.underlying3 rfl (by first | exact hS.ldc | exact hS.ld rfl | exact hS.ld (by assumption) | exact by assumption | exact At.cellC (by assumption) | exact At.cellC ((by assumption : ∀ w', Sat _ w' _ → At w' _ _ _) _ hS) | exact (by assumption : ∀ w', Sat _ w' _ → World.cell? w' _ = some _) _ hS)) ?_
  refine D.act 5 rfl (by kernel_rfl) ?_
  refine R.call ⟨_, _, Tryd.func41, rfl, by kernel_rfl⟩ rfl rfl (count_any hs) ?_
  rintro _ w3 ⟨rfl, hs⟩
  refine D.back hs.to ?_
  refine D.evP 6 rfl (by kernel_rfl) rfl (fun _ => hs.to) (fun _ => E.sub rfl rfl (by omega) (by omega)) ?_
  refine D.evP 7 rfl (by kernel_rfl) rfl (fun _ => hs.to) (fun _ => E.max2 rfl rfl) ?_
  refine D.evP 8 rfl (by kernel_rfl) rfl (fun _ => hs.to) (fun _ => E.assign rfl) ?_
  refine D.done rfl (by kernel_rfl) ?_
  refine X.keep [(2, _)] ⟨rfl, trivial⟩ ?_
  refine X.next ?_
  refine C.ret ?_
  refine X.ret1 rfl rfl ?_
  exact ⟨rfl, hs⟩
def outsL (L : List Off) : List (Vec 32) := (L.filter Off.outs).map Off.id
theorem outsL_snoc {L : List Off} {k : Nat} {y : Off} (h : L[k]? = some y) : outsL (L.take (k + 1)) = outsL (L.take k) ++ (if y.outs then [y.id] else []) := by
  rw [take_snoc h, outsL, outsL, List.filter_append, List.map_append]
  cases hy : y.outs <;> simp [hy]
theorem outsL_len (L : List Off) : (outsL L).length = cnt L := by simp [outsL, cnt]
theorem outstanding_any (hs : Sat K w Hs) [hw : WinIn p sz L Hs] (hL : L.length ≤ 1000000) : Ret Tryd.prog 15 #[ptr p] w fun r w' => ∃ F', RowL 37 encV 32 r (outsL L) F' ∧ Sat K w' (F' :: Hs) := by
  obtain ⟨v, G, _, hr, _⟩ := hw.ex
  obtain ⟨ad, cap, rfl, hc, hcm, had⟩ := hr.val
  refine Ret.enter (n := 26) (args := [ptr p]) Tryd.func15 rfl rfl ?_
  refine C.keep [(0, _)] ⟨rfl, trivial⟩ ?_
  refine C.seq ?_
  refine C.region ?_
  refine R.ev rfl (E.assign rfl) ?_
  refine R.done ?_
  refine X.keep [(0, _)] ⟨rfl, trivial⟩ ?_
  refine X.next ?_
  refine C.seq ?_
  refine C.seq ?_
  refine C.region ?_
  refine R.ev rfl (E.move rfl) ?_
  refine R.ev rfl (E.eqlNilF rfl rfl Tryd.underlying25) ?_
  refine R.done ?_
  refine X.keep [(0, _), (7, _)] ⟨rfl, rfl, trivial⟩ ?_
  refine X.next ?_
  refine C.cfalse rfl ?_
  refine C.skip ?_
  refine X.next ?_
  refine C.seq ?_
  refine C.region ?_
  refine R.ev rfl (E.assign rfl) ?_
  refine R.done ?_
  refine X.keep [(0, _), (3, _)] ⟨rfl, rfl, trivial⟩ ?_
  refine X.next ?_
  refine C.seq ?_
  refine C.seq ?_
  refine C.region ?_
  refine R.ev rfl (E.move rfl) ?_
  refine R.ev rfl (E.nilCheck rfl) ?_
  first | refine R.ev rfl (E.fieldAddr0 1 rfl Tryd.underlying78 rfl Tryd.sz76 rfl) ?_ | refine R.ev rfl (E.fieldAddrN 1 rfl Tryd.underlying78 rfl Tryd.sz76 rfl) ?_
  refine R.ev rfl (E.load1 rfl Tryd.underlying76 rfl (by first | exact hs.ldc | exact hs.ld rfl | exact hs.ld (by assumption) | exact by assumption | exact At.cellC (by assumption))) ?_
  refine R.ev rfl (E.lenSl rfl Tryd.underlying76) ?_
  refine R.ev rfl (E.move rfl) ?_
  refine R.done ?_
  refine X.keep [(3, _), (11, _), (12, _), (13, _)] ⟨rfl, rfl, rfl, rfl, trivial⟩ ?_
  refine X.next ?_
  refine C.block ?_
  refine C.loop (T := Nat × Value × Hl) [(11, _), (12, _)] (fun (k, v, _) => [(3, v), (13, .int .i64 (k : Nat))]) (fun (k, v, F') w' => k ≤ L.length ∧ RowL 37 encV 32 v (outsL (L.take k)) F' ∧ Sat K w' (F' :: Hs)) (fun (k, _) => L.length - k) ((0, .slice none 0 0, [])) ⟨rfl, rfl, rfl, rfl, trivial⟩ ⟨by omega, RowL.nil _ _ _, hs.nil⟩ ?_
  rintro ⟨k, v, F'⟩ w1 ⟨hk, r1, hs⟩
  have hlen : (outsL (L.take k)).length ≤ 1000000 := by rw [outsL_len]; have := cnt_le (L.take k); simp at this; omega
  refine C.keep [(3, _), (11, _), (12, _), (13, _)] ⟨rfl, rfl, rfl, rfl, trivial⟩ ?_
  refine C.seq ?_
  refine C.region ?_
  refine R.ev rfl (E.lss rfl rfl) ?_
  refine R.done ?_
  refine X.keep [(3, _), (11, _), (12, _), (13, _), (14, _)] ⟨rfl, rfl, rfl, rfl, rfl, trivial⟩ ?_
  refine X.next ?_
  refine C.seq ?_
  refine C.cdec rfl (fun h14 => ?_) (fun h14 => ?_)
  · obtain ⟨y, bk_y, of_y, hy, my, ly, rfl, Ay⟩ := hs.el (i := k) (ad := ad) (n := L.length) (c := cap) (by omega)
    have ay := Ay _ hs
    have e2 := encV_len y.id
    refine C.skip ?_
    refine X.next ?_
    refine C.seq ?_
    refine C.block ?_
    refine C.seq ?_
    refine C.region ?_
    refine R.ev rfl (E.indexAddr rfl rfl Tryd.underlying76 Tryd.sz81 rfl (by first | omega | decide)) ?_
    refine R.ev rfl (E.loadRowC rfl Tryd.underlying81 rfl Tryd.sz81 (by first | exact ⟨hs.ldA, by first | rfl | assumption | exact encV_len _ | exact Enc.len _ | exact len_ub (by assumption)⟩ | exact ⟨hs.ldP rfl, by first | rfl | assumption | exact encV_len _ | exact Enc.len _ | exact len_ub (by assumption)⟩ | exact ⟨hs.ldM rfl rfl, by first | rfl | assumption | exact encV_len _ | exact Enc.len _ | exact len_ub (by assumption)⟩ | exact ⟨hs.ldM (by assumption) (by first | rfl | assumption), by first | rfl | assumption | exact encV_len _ | exact Enc.len _ | exact len_ub (by assumption)⟩ | exact ⟨by assumption, by first | rfl | assumption | exact encV_len _ | exact Enc.len _ | exact len_ub (by assumption)⟩ | exact hs.ldp | exact At.partC (by assumption))) ?_
    refine R.sallocA hs Tryd.zr81 rfl ?_
    intro b5 w5 hs
    first | refine R.cstoreAll hs rfl rfl Tryd.sz81 (by first | rfl | assumption | exact encV_len _ | exact Enc.len _ | exact len_ub (by assumption) | simp [*]) (by first | rfl | assumption | exact encV_len _ | exact Enc.len _ | exact len_ub (by assumption) | simp [*]) (by first | assumption | exact OneL.all | exact Enc.one _ | exact ub_all _ | (repeat' (first | refine List.forall_mem_cons.2 ⟨?_, ?_⟩ | exact List.forall_mem_nil _ | rfl | exact OneC.one | exact KRow.oneC' (by assumption)))) ?_ | refine R.cstore hs rfl rfl Tryd.sz81 (by first | rfl | assumption | exact encV_len _ | exact Enc.len _ | exact len_ub (by assumption) | simp [*]) (by simp [*]) (by first | assumption | exact OneL.all | exact Enc.one _ | exact ub_all _ | (repeat' (first | refine List.forall_mem_cons.2 ⟨?_, ?_⟩ | exact List.forall_mem_nil _ | rfl | exact OneC.one | exact KRow.oneC' (by assumption)))) ?_
    intro w6_3 hs
    try simp only [List.set_cons_zero, List.set_cons_succ] at hs
    refine R.done ?_
    refine X.keep [(3, _), (5, _), (11, _), (12, _), (13, _)] ⟨rfl, rfl, rfl, rfl, rfl, trivial⟩ ?_
    refine X.next ?_
    refine C.seq ?_
    refine C.region ?_
    refine R.ev rfl (E.loadRowC rfl Tryd.underlying81 rfl Tryd.sz81 (by first | exact ⟨hs.ldA, by first | rfl | assumption | exact encV_len _ | exact Enc.len _ | exact len_ub (by assumption)⟩ | exact ⟨hs.ldP rfl, by first | rfl | assumption | exact encV_len _ | exact Enc.len _ | exact len_ub (by assumption)⟩ | exact ⟨hs.ldM rfl rfl, by first | rfl | assumption | exact encV_len _ | exact Enc.len _ | exact len_ub (by assumption)⟩ | exact ⟨hs.ldM (by assumption) (by first | rfl | assumption), by first | rfl | assumption | exact encV_len _ | exact Enc.len _ | exact len_ub (by assumption)⟩ | exact ⟨by assumption, by first | rfl | assumption | exact encV_len _ | exact Enc.len _ | exact len_ub (by assumption)⟩ | exact hs.ldp | exact At.partC (by assumption))) ?_
    refine R.call ⟨_, _, Tryd.func38, rfl, by kernel_rfl⟩ rfl rfl (outs_any y hs) ?_
    rintro _ w7 ⟨rfl, hs⟩
    refine R.done ?_
    refine X.keep [(3, _), (5, _), (11, _), (12, _), (13, _), (18, _)] ⟨rfl, rfl, rfl, rfl, rfl, rfl, trivial⟩ ?_
    refine X.next ?_
    refine C.cbool rfl (fun h18 => ?_) (fun h18 => ?_)
    · refine C.region ?_
      refine R.ev rfl (E.move rfl) ?_
      first | refine R.ev rfl (E.fieldAddr0 0 rfl Tryd.underlying81 rfl Tryd.sz37 rfl) ?_ | refine R.ev rfl (E.fieldAddrN 0 rfl Tryd.underlying81 rfl Tryd.sz37 rfl) ?_
      refine R.ev rfl (E.loadRowC rfl Tryd.underlying37 rfl Tryd.sz37 (by first | exact ⟨hs.ldA, by first | rfl | assumption | exact encV_len _ | exact Enc.len _ | exact len_ub (by assumption)⟩ | exact ⟨hs.ldP rfl, by first | rfl | assumption | exact encV_len _ | exact Enc.len _ | exact len_ub (by assumption)⟩ | exact ⟨hs.ldM rfl rfl, by first | rfl | assumption | exact encV_len _ | exact Enc.len _ | exact len_ub (by assumption)⟩ | exact ⟨hs.ldM (by assumption) (by first | rfl | assumption), by first | rfl | assumption | exact encV_len _ | exact Enc.len _ | exact len_ub (by assumption)⟩ | exact ⟨by assumption, by first | rfl | assumption | exact encV_len _ | exact Enc.len _ | exact len_ub (by assumption)⟩ | exact hs.ldp | exact At.partC (by assumption))) ?_
      refine R.buildSliceA rfl Tryd.underlying33 Tryd.sz37 Tryd.zr37 rfl (by first | rfl | assumption | exact encV_len _ | exact Enc.len _ | simp [*]) (by decide) (by decide) ?_
      intro b22 w22 n22
      have hs := hs.new n22
      refine R.capp1 (y.id) hs rfl rfl Tryd.underlying33 Tryd.by37 (by rfl) rfl (by first | exact hs.ldA | exact hs.ldP rfl | exact by assumption) (by decide) (by first | omega | (simp only [List.length_append, List.length_cons, List.length_nil] at *; omega)) (by first | omega | (simp only [List.length_append, List.length_cons, List.length_nil] at *; omega)) ?_
      intro v23 w23 F23 r23 hs
      refine R.ev rfl (E.assign rfl) ?_
      refine R.done ?_
      refine X.keep [(3, _), (11, _), (12, _), (13, _)] ⟨rfl, rfl, rfl, rfl, trivial⟩ ?_
      refine X.blockNormal ?_
      refine X.next ?_
      refine C.region ?_
      refine R.ev rfl (E.add rfl rfl (by omega) (by omega)) ?_
      refine R.ev rfl (E.move rfl) ?_
      refine R.done ?_
      refine X.keep [(3, _), (11, _), (12, _), (13, _)] ⟨rfl, rfl, rfl, rfl, trivial⟩ ?_
      first
        | exact X.again (k + 1, v23, F23) ⟨rfl, rfl, rfl, rfl, trivial⟩ ⟨by omega, by rw [outsL_snoc hy, h18]; exact r23, hs.to⟩ (by show _ - _ < _ - _; omega)
        | exact X.again (k + 1, v, F') ⟨rfl, rfl, rfl, rfl, trivial⟩ ⟨by omega, by rw [outsL_snoc hy, h18]; simpa using r1, hs.to⟩ (by show _ - _ < _ - _; omega)
    · refine C.skip ?_
      refine X.blockNormal ?_
      refine X.next ?_
      refine C.region ?_
      refine R.ev rfl (E.add rfl rfl (by omega) (by omega)) ?_
      refine R.ev rfl (E.move rfl) ?_
      refine R.done ?_
      refine X.keep [(3, _), (11, _), (12, _), (13, _)] ⟨rfl, rfl, rfl, rfl, trivial⟩ ?_
      first
        | exact X.again (k + 1, v23, F23) ⟨rfl, rfl, rfl, rfl, trivial⟩ ⟨by omega, by rw [outsL_snoc hy, h18]; exact r23, hs.to⟩ (by show _ - _ < _ - _; omega)
        | exact X.again (k + 1, v, F') ⟨rfl, rfl, rfl, rfl, trivial⟩ ⟨by omega, by rw [outsL_snoc hy, h18]; simpa using r1, hs.to⟩ (by show _ - _ < _ - _; omega)
  · refine C.exit ?_
    refine X.thenExit ?_
    refine X.loopExit ?_
    refine X.blockExit ?_
    refine X.next ?_
    refine C.seq ?_
    refine C.region ?_
    refine R.ev rfl (E.move rfl) ?_
    refine R.ev rfl (E.assign rfl) ?_
    refine R.done ?_
    refine X.keep [(2, _)] ⟨rfl, trivial⟩ ?_
    refine X.next ?_
    refine C.ret ?_
    refine X.ret1 rfl rfl ?_
    exact ⟨F', by rwa [show k = L.length by omega, List.take_length] at r1, hs⟩
structure Res where
  id : Vec 32
  out : Int
deriving DecidableEq
def encR (o : Res) : List Value := o.id.1.map ub ++ [.int .i64 o.out]
instance : Enc encR 33 := ⟨fun o => by simp [encR, o.id.2], fun o u hu => by
  simp only [encR, List.mem_append, List.mem_cons, List.not_mem_nil, or_false] at hu
  rcases hu with hu | rfl
  · exact ub_all _ u hu
  · rfl⟩
theorem encR_fits (o : Res) : fitsAll (List.replicate 32 (lInt .u8) ++ [lInt .i64]) (encR o) = true := fitsAll_mk (fitsN o.id.2) rfl
theorem encR_eq (o o' : Res) : cellsEq (encR o) (encR o') = decide (o = o') := by
  rw [encR, encR, cellsEq_app _ _ _ _ (by simp [o.id.2, o'.id.2]), cellsEq_vec, Bool.eq_iff_iff]
  cases o; cases o'; simp [cellsEq, cellEq]
def resO (o : Off) : Res := ⟨o.id, (o.out.1 : Nat)⟩
/-- the offers with final outcomes at the front -/
def fin (L : List Off) : List Off := L.takeWhile (fun o => !o.outs)
def unfin (L : List Off) : List Off := L.dropWhile (fun o => !o.outs)
def idxN (L : List Off) : Nat := (fin L).length
theorem idxN_le (L : List Off) : idxN L ≤ L.length := (List.takeWhile_prefix _).length_le
theorem fin_take (L : List Off) : L.take (idxN L) = fin L := (List.prefix_iff_eq_take.1 (List.takeWhile_prefix _)).symm
theorem fin_drop (L : List Off) : L.drop (idxN L) = unfin L := by
  have h := List.takeWhile_append_dropWhile (p := fun o : Off => !o.outs) (l := L)
  have : (fin L ++ unfin L).drop (idxN L) = unfin L := by rw [idxN, List.drop_left]
  rwa [show fin L ++ unfin L = L from h] at this
theorem idx_fin : ∀ (L : List Off), idxP Off.outs L = if idxN L = L.length then -1 else (idxN L : Int)
  | [] => by simp [idxP, idxN, fin]
  | o :: L => by
    have ih := idx_fin L
    by_cases ho : o.outs = true
    · have e1 : idxN (o :: L) = 0 := by simp [idxN, fin, ho]
      have e2 : idxP Off.outs (o :: L) = ((0 : Nat) : Int) := idxP_some (k := 0) (y := o) rfl ho (fun j hj => by omega)
      rw [e1, e2]; simp
    · have ho : o.outs = false := by simpa using ho
      have e1 : idxN (o :: L) = idxN L + 1 := by simp [idxN, fin, ho]
      have e2 : idxP Off.outs (o :: L) = if idxP Off.outs L = -1 then -1 else idxP Off.outs L + 1 := by
        unfold idxP
        rw [List.findIdx?_cons, ho]
        cases L.findIdx? Off.outs <;> simp <;> omega
      rw [e1, e2, ih]
      simp only [List.length_cons]
      have := idxN_le L
      split <;> split <;> split <;> omega
def encRL (L : List Off) : List Res := L.map resO
theorem settled_any (hs : Sat K w (F :: Rs)) [hw : Win p sz L F] (hL : L.length ≤ 1000000) : Ret Tryd.prog 14 #[ptr p] w fun r w' => ∃ F' F2, RowL 43 encR 33 r ((fin L).map resO) F2 ∧ Win p sz (unfin L) F' ∧ Sat K w' (F2 :: F' :: Rs) := by
  obtain ⟨v, G, rfl, hr⟩ := hw.ex
  obtain ⟨ad, cap, rfl, hc, hcm, had⟩ := hr.val
  unfold maxLen at hcm
  have hs := hs.cut
  have hN := idxN_le L
  refine Ret.enter (n := 51) (args := [ptr p]) Tryd.func14 rfl rfl ?_
  refine C.keep [(0, _)] ⟨rfl, trivial⟩ ?_
  refine C.seq ?_
  refine C.region ?_
  refine R.ev rfl (E.assign rfl) ?_
  refine R.done ?_
  refine X.keep [(0, _)] ⟨rfl, trivial⟩ ?_
  refine X.next ?_
  refine C.seq ?_
  refine C.seq ?_
  refine C.region ?_
  refine R.ev rfl (E.move rfl) ?_
  refine R.ev rfl (E.eqlNilF rfl rfl Tryd.underlying25) ?_
  refine R.done ?_
  refine X.keep [(0, _), (8, _)] ⟨rfl, rfl, trivial⟩ ?_
  refine X.next ?_
  refine C.cfalse rfl ?_
  refine C.skip ?_
  refine X.next ?_
  refine C.seq ?_
  refine C.region ?_
  refine R.ev rfl (E.move rfl) ?_
  refine R.ev rfl (E.nilCheck rfl) ?_
  first | refine R.ev rfl (E.fieldAddr0 1 rfl Tryd.underlying78 rfl Tryd.sz76 rfl) ?_ | refine R.ev rfl (E.fieldAddrN 1 rfl Tryd.underlying78 rfl Tryd.sz76 rfl) ?_
  refine R.ev rfl (E.load1 rfl Tryd.underlying76 rfl (by first | exact hs.ldc | exact hs.ld rfl | exact hs.ld (by assumption) | exact by assumption | exact At.cellC (by assumption))) ?_
  refine R.call ⟨_, _, Tryd.func37, rfl, by kernel_rfl⟩ rfl rfl (idxO_any (p := Off.outs) (first := []) (cap := []) ⟨_, _, Tryd.func38, rfl, by kernel_rfl⟩ hs (by omega) (fun y _ w' hs' => outs_any y hs')) ?_
  rintro _ w3 ⟨rfl, hs⟩
  refine R.ev rfl (E.assign rfl) ?_
  refine R.done ?_
  refine X.keep [(0, _), (3, _)] ⟨rfl, rfl, trivial⟩ ?_
  refine X.next ?_
  refine C.seq ?_
  refine C.seq ?_
  refine C.region ?_
  refine R.ev rfl (E.move rfl) ?_
  refine R.ev rfl ((E.lss rfl rfl).isB (c := decide (idxN L = L.length)) (by rw [idx_fin]; by_cases h : idxN L = L.length <;> simp [h])) ?_
  refine R.done ?_
  refine X.keep [(0, _), (3, _), (15, _)] ⟨rfl, rfl, rfl, trivial⟩ ?_
  refine X.next ?_
  refine C.cdec rfl (fun h15 => ?_) (fun h15 => ?_)
  · refine C.region ?_
    refine R.ev rfl (E.move rfl) ?_
    refine R.ev rfl (E.nilCheck rfl) ?_
    first | refine R.ev rfl (E.fieldAddr0 1 rfl Tryd.underlying78 rfl Tryd.sz76 rfl) ?_ | refine R.ev rfl (E.fieldAddrN 1 rfl Tryd.underlying78 rfl Tryd.sz76 rfl) ?_
    refine R.ev rfl (E.load1 rfl Tryd.underlying76 rfl (by first | exact hs.ldc | exact hs.ld rfl | exact hs.ld (by assumption) | exact by assumption | exact At.cellC (by assumption))) ?_
    refine R.ev rfl (E.lenSl rfl Tryd.underlying76) ?_
    refine R.ev rfl ((E.assign rfl).as (u := .int .i64 (idxN L)) (by rw [h15])) ?_
    refine R.done ?_
    refine X.keep [(0, _), (3, _)] ⟨rfl, rfl, trivial⟩ ?_
    refine X.next ?_
    refine C.seq ?_
    refine C.region ?_
    refine R.ev rfl (E.assign rfl) ?_
    refine R.done ?_
    refine X.keep [(0, _), (3, _), (4, _)] ⟨rfl, rfl, rfl, trivial⟩ ?_
    refine X.next ?_
    refine C.seq ?_
    refine C.seq ?_
    refine C.region ?_
    refine R.ev rfl (E.move rfl) ?_
    refine R.ev rfl (E.nilCheck rfl) ?_
    first | refine R.ev rfl (E.fieldAddr0 1 rfl Tryd.underlying78 rfl Tryd.sz76 rfl) ?_ | refine R.ev rfl (E.fieldAddrN 1 rfl Tryd.underlying78 rfl Tryd.sz76 rfl) ?_
    refine R.ev rfl (E.load1 rfl Tryd.underlying76 rfl (by first | exact hs.ldc | exact hs.ld rfl | exact hs.ld (by assumption) | exact by assumption | exact At.cellC (by assumption))) ?_
    refine R.ev rfl (E.move rfl) ?_
    refine R.ev rfl (E.sliceH rfl rfl Tryd.underlying76 Tryd.sz81 rfl (by omega)) ?_
    refine R.ev rfl (E.lenSl rfl Tryd.underlying76) ?_
    refine R.ev rfl (E.move rfl) ?_
    refine R.done ?_
    refine X.keep [(0, _), (3, _), (4, _), (26, _), (27, _), (28, _)] ⟨rfl, rfl, rfl, rfl, rfl, rfl, trivial⟩ ?_
    refine X.next ?_
    refine C.block ?_
    refine C.loop (T := Nat × Value × Hl) [(0, _), (3, _), (26, _), (27, _)] (fun (k, v, _) => [(4, v), (28, .int .i64 (k : Nat))]) (fun (k, v, F') w' => k ≤ idxN L ∧ RowL 43 encR 33 v ((L.take k).map resO) F' ∧ Sat K w' (F' :: row p 78 [.int .i64 sz, .slice ad L.length cap] :: G :: Rs)) (fun (k, _) => idxN L - k) ((0, .slice none 0 0, [])) ⟨rfl, rfl, rfl, rfl, rfl, rfl, trivial⟩ ⟨by omega, RowL.nil _ _ _, hs.nil⟩ ?_
    rintro ⟨k, v, F'⟩ w1 ⟨hk, r1, hs⟩
    have hlen : ((L.take k).map resO).length ≤ 1000000 := by simp; omega
    refine C.keep [(0, _), (3, _), (4, _), (26, _), (27, _), (28, _)] ⟨rfl, rfl, rfl, rfl, rfl, rfl, trivial⟩ ?_
    refine C.seq ?_
    refine C.region ?_
    refine R.ev rfl (E.lss rfl rfl) ?_
    refine R.done ?_
    refine X.keep [(0, _), (3, _), (4, _), (26, _), (27, _), (28, _), (29, _)] ⟨rfl, rfl, rfl, rfl, rfl, rfl, rfl, trivial⟩ ?_
    refine X.next ?_
    refine C.seq ?_
    refine C.cdec rfl (fun h29 => ?_) (fun h29 => ?_)
    · obtain ⟨y, bk_y, of_y, hy, my, ly, rfl, Ay⟩ := hs.el (i := k) (ad := ad) (n := L.length) (c := cap) (by omega)
      have ay := Ay _ hs
      have e2 := encV_len y.id
      have eo := encO_out y
      refine C.skip ?_
      refine X.next ?_
      refine C.seq ?_
      refine C.block ?_
      refine C.seq ?_
      refine C.region ?_
      refine R.ev rfl (E.indexAddr rfl rfl Tryd.underlying76 Tryd.sz81 rfl (by first | omega | decide)) ?_
      refine R.ev rfl (E.loadRowC rfl Tryd.underlying81 rfl Tryd.sz81 (by first | exact ⟨hs.ldA, by first | rfl | assumption | exact encV_len _ | exact Enc.len _ | exact len_ub (by assumption)⟩ | exact ⟨hs.ldP rfl, by first | rfl | assumption | exact encV_len _ | exact Enc.len _ | exact len_ub (by assumption)⟩ | exact ⟨hs.ldM rfl rfl, by first | rfl | assumption | exact encV_len _ | exact Enc.len _ | exact len_ub (by assumption)⟩ | exact ⟨hs.ldM (by assumption) (by first | rfl | assumption), by first | rfl | assumption | exact encV_len _ | exact Enc.len _ | exact len_ub (by assumption)⟩ | exact ⟨by assumption, by first | rfl | assumption | exact encV_len _ | exact Enc.len _ | exact len_ub (by assumption)⟩ | exact hs.ldp | exact At.partC (by assumption))) ?_
      refine R.sallocA hs Tryd.zr81 rfl ?_
      intro b6 w6 hs
      first | refine R.cstoreAll hs rfl rfl Tryd.sz81 (by first | rfl | assumption | exact encV_len _ | exact Enc.len _ | exact len_ub (by assumption) | simp [*]) (by first | rfl | assumption | exact encV_len _ | exact Enc.len _ | exact len_ub (by assumption) | simp [*]) (by first | assumption | exact OneL.all | exact Enc.one _ | exact ub_all _ | (repeat' (first | refine List.forall_mem_cons.2 ⟨?_, ?_⟩ | exact List.forall_mem_nil _ | rfl | exact OneC.one | exact KRow.oneC' (by assumption)))) ?_ | refine R.cstore hs rfl rfl Tryd.sz81 (by first | rfl | assumption | exact encV_len _ | exact Enc.len _ | exact len_ub (by assumption) | simp [*]) (by simp [*]) (by first | assumption | exact OneL.all | exact Enc.one _ | exact ub_all _ | (repeat' (first | refine List.forall_mem_cons.2 ⟨?_, ?_⟩ | exact List.forall_mem_nil _ | rfl | exact OneC.one | exact KRow.oneC' (by assumption)))) ?_
      intro w9_3 hs
      try simp only [List.set_cons_zero, List.set_cons_succ] at hs
      refine R.done ?_
      refine X.keep [(0, _), (3, _), (4, _), (6, _), (26, _), (27, _), (28, _)] ⟨rfl, rfl, rfl, rfl, rfl, rfl, rfl, trivial⟩ ?_
      refine X.next ?_
      refine C.region ?_
      refine R.ev rfl (E.move rfl) ?_
      first | refine R.ev rfl (E.fieldAddr0 0 rfl Tryd.underlying81 rfl Tryd.sz37 rfl) ?_ | refine R.ev rfl (E.fieldAddrN 0 rfl Tryd.underlying81 rfl Tryd.sz37 rfl) ?_
      refine R.ev rfl (E.loadRowC rfl Tryd.underlying37 rfl Tryd.sz37 (by first | exact ⟨hs.ldA, by first | rfl | assumption | exact encV_len _ | exact Enc.len _ | exact len_ub (by assumption)⟩ | exact ⟨hs.ldP rfl, by first | rfl | assumption | exact encV_len _ | exact Enc.len _ | exact len_ub (by assumption)⟩ | exact ⟨hs.ldM rfl rfl, by first | rfl | assumption | exact encV_len _ | exact Enc.len _ | exact len_ub (by assumption)⟩ | exact ⟨hs.ldM (by assumption) (by first | rfl | assumption), by first | rfl | assumption | exact encV_len _ | exact Enc.len _ | exact len_ub (by assumption)⟩ | exact ⟨by assumption, by first | rfl | assumption | exact encV_len _ | exact Enc.len _ | exact len_ub (by assumption)⟩ | exact hs.ldp | exact At.partC (by assumption))) ?_
      first | refine R.ev rfl (E.fieldAddr0 33 rfl Tryd.underlying81 rfl Tryd.sz3 rfl) ?_ | refine R.ev rfl (E.fieldAddrN 33 rfl Tryd.underlying81 rfl Tryd.sz3 rfl) ?_
      refine R.ev rfl (E.load1 rfl Tryd.underlying3 rfl (by first | exact hs.ldc | exact hs.ld rfl | exact hs.ld (by assumption) | exact by assumption | exact At.cellC (by assumption))) ?_
      refine R.ev rfl (E.buildG (r := encR (resO y)) rfl Tryd.underlying43 Tryd.zr43 Tryd.ql43 (by kernel_rfl) (by kernel_rfl) ⟨⟨_, rfl, by first | rfl | exact vsz _ | simp [Value.cells, *]⟩, ⟨_, rfl, by first | rfl | exact vsz _ | simp [Value.cells, *]⟩, trivial⟩ (by first | rfl | simp [setF, fieldsOf, Value.cells])) ?_
      refine R.buildSliceA rfl Tryd.underlying30 Tryd.sz43 Tryd.zr43 rfl (by first | rfl | assumption | exact encV_len _ | exact Enc.len _ | simp [*]) (by decide) (by decide) ?_
      intro b38 w38 n38
      have hs := hs.new n38
      refine R.capp1 ((resO y)) hs rfl rfl Tryd.underlying30 Tryd.by43 (by rfl) rfl (by first | exact hs.ldA | exact hs.ldP rfl | exact by assumption) (by decide) (by first | omega | (simp only [List.length_append, List.length_cons, List.length_nil] at *; omega)) (by first | omega | (simp only [List.length_append, List.length_cons, List.length_nil] at *; omega)) ?_
      intro v39 w39 F39 r39 hs
      refine R.ev rfl (E.assign rfl) ?_
      refine R.done ?_
      refine X.keep [(0, _), (3, _), (4, _), (26, _), (27, _), (28, _)] ⟨rfl, rfl, rfl, rfl, rfl, rfl, trivial⟩ ?_
      refine X.blockNormal ?_
      refine X.next ?_
      refine C.region ?_
      refine R.ev rfl (E.add rfl rfl (by omega) (by omega)) ?_
      refine R.ev rfl (E.move rfl) ?_
      refine R.done ?_
      refine X.keep [(0, _), (3, _), (4, _), (26, _), (27, _), (28, _)] ⟨rfl, rfl, rfl, rfl, rfl, rfl, trivial⟩ ?_
      exact X.again (k + 1, v39, F39) ⟨rfl, rfl, rfl, rfl, rfl, rfl, trivial⟩ ⟨by omega, by rw [take_snoc hy, List.map_append]; exact r39, hs.to⟩ (by show _ - _ < _ - _; omega)
    · refine C.exit ?_
      refine X.thenExit ?_
      refine X.loopExit ?_
      refine X.blockExit ?_
      refine X.next ?_
      refine C.seq ?_
      refine C.region ?_
      refine R.ev rfl (E.move rfl) ?_
      refine R.ev rfl (E.move rfl) ?_
      refine R.ev rfl (E.nilCheck rfl) ?_
      first | refine R.ev rfl (E.fieldAddr0 1 rfl Tryd.underlying78 rfl Tryd.sz76 rfl) ?_ | refine R.ev rfl (E.fieldAddrN 1 rfl Tryd.underlying78 rfl Tryd.sz76 rfl) ?_
      refine R.ev rfl (E.load1 rfl Tryd.underlying76 rfl (by first | exact hs.ldc | exact hs.ld rfl | exact hs.ld (by assumption) | exact by assumption | exact At.cellC (by assumption))) ?_
      refine R.ev rfl (E.move rfl) ?_
      refine R.call ⟨_, _, Tryd.func39, rfl, by kernel_rfl⟩ rfl rfl (delO_any (i := 0) (j := idxN L) (hs.front (F := G)) (by omega) hN hL) ?_
      rintro v2 w12 ⟨F2, r2, hs1⟩
      have hs := hs.back (F := G) hs1
      refine R.ev rfl (E.nilCheck rfl) ?_
      first | refine R.ev rfl (E.fieldAddr0 1 rfl Tryd.underlying78 rfl Tryd.sz76 rfl) ?_ | refine R.ev rfl (E.fieldAddrN 1 rfl Tryd.underlying78 rfl Tryd.sz76 rfl) ?_
      refine R.cstore1 hs rfl rfl Tryd.sz76 (by first | decide | simp [*]) (by first | rfl | exact OneC.one | exact KRow.oneC' (by assumption)) ?_
      intro w12_9 hs
      try simp only [List.set_cons_zero, List.set_cons_succ] at hs
      refine R.done ?_
      refine X.keep [(4, _)] ⟨rfl, trivial⟩ ?_
      refine X.next ?_
      refine C.seq ?_
      refine C.region ?_
      refine R.ev rfl (E.move rfl) ?_
      refine R.ev rfl (E.assign rfl) ?_
      refine R.done ?_
      refine X.keep [(2, _)] ⟨rfl, trivial⟩ ?_
      refine X.next ?_
      refine C.ret ?_
      refine X.ret1 rfl rfl ?_
      have e : k = idxN L := by omega
      rw [e, fin_take] at r1
      rw [fin_drop] at r2
      exact ⟨_, F', r1, Win.mk' (by simpa using r2), hs.to⟩
  · refine C.slot 3 (.int .i64 (idxN L)) rfl (by rw [idx_fin, if_neg h15]) ?_
    refine C.skip ?_
    refine X.next ?_
    refine C.seq ?_
    refine C.region ?_
    refine R.ev rfl (E.assign rfl) ?_
    refine R.done ?_
    refine X.keep [(0, _), (3, _), (4, _)] ⟨rfl, rfl, rfl, trivial⟩ ?_
    refine X.next ?_
    refine C.seq ?_
    refine C.seq ?_
    refine C.region ?_
    refine R.ev rfl (E.move rfl) ?_
    refine R.ev rfl (E.nilCheck rfl) ?_
    first | refine R.ev rfl (E.fieldAddr0 1 rfl Tryd.underlying78 rfl Tryd.sz76 rfl) ?_ | refine R.ev rfl (E.fieldAddrN 1 rfl Tryd.underlying78 rfl Tryd.sz76 rfl) ?_
    refine R.ev rfl (E.load1 rfl Tryd.underlying76 rfl (by first | exact hs.ldc | exact hs.ld rfl | exact hs.ld (by assumption) | exact by assumption | exact At.cellC (by assumption))) ?_
    refine R.ev rfl (E.move rfl) ?_
    refine R.ev rfl (E.sliceH rfl rfl Tryd.underlying76 Tryd.sz81 rfl (by omega)) ?_
    refine R.ev rfl (E.lenSl rfl Tryd.underlying76) ?_
    refine R.ev rfl (E.move rfl) ?_
    refine R.done ?_
    refine X.keep [(0, _), (3, _), (4, _), (26, _), (27, _), (28, _)] ⟨rfl, rfl, rfl, rfl, rfl, rfl, trivial⟩ ?_
    refine X.next ?_
    refine C.block ?_
    refine C.loop (T := Nat × Value × Hl) [(0, _), (3, _), (26, _), (27, _)] (fun (k, v, _) => [(4, v), (28, .int .i64 (k : Nat))]) (fun (k, v, F') w' => k ≤ idxN L ∧ RowL 43 encR 33 v ((L.take k).map resO) F' ∧ Sat K w' (F' :: row p 78 [.int .i64 sz, .slice ad L.length cap] :: G :: Rs)) (fun (k, _) => idxN L - k) ((0, .slice none 0 0, [])) ⟨rfl, rfl, rfl, rfl, rfl, rfl, trivial⟩ ⟨by omega, RowL.nil _ _ _, hs.nil⟩ ?_
    rintro ⟨k, v, F'⟩ w1 ⟨hk, r1, hs⟩
    have hlen : ((L.take k).map resO).length ≤ 1000000 := by simp; omega
    refine C.keep [(0, _), (3, _), (4, _), (26, _), (27, _), (28, _)] ⟨rfl, rfl, rfl, rfl, rfl, rfl, trivial⟩ ?_
    refine C.seq ?_
    refine C.region ?_
    refine R.ev rfl (E.lss rfl rfl) ?_
    refine R.done ?_
    refine X.keep [(0, _), (3, _), (4, _), (26, _), (27, _), (28, _), (29, _)] ⟨rfl, rfl, rfl, rfl, rfl, rfl, rfl, trivial⟩ ?_
    refine X.next ?_
    refine C.seq ?_
    refine C.cdec rfl (fun h29 => ?_) (fun h29 => ?_)
    · obtain ⟨y, bk_y, of_y, hy, my, ly, rfl, Ay⟩ := hs.el (i := k) (ad := ad) (n := L.length) (c := cap) (by omega)
      have ay := Ay _ hs
      have e2 := encV_len y.id
      have eo := encO_out y
      refine C.skip ?_
      refine X.next ?_
      refine C.seq ?_
      refine C.block ?_
      refine C.seq ?_
      refine C.region ?_
      refine R.ev rfl (E.indexAddr rfl rfl Tryd.underlying76 Tryd.sz81 rfl (by first | omega | decide)) ?_
      refine R.ev rfl (E.loadRowC rfl Tryd.underlying81 rfl Tryd.sz81 (by first | exact ⟨hs.ldA, by first | rfl | assumption | exact encV_len _ | exact Enc.len _ | exact len_ub (by assumption)⟩ | exact ⟨hs.ldP rfl, by first | rfl | assumption | exact encV_len _ | exact Enc.len _ | exact len_ub (by assumption)⟩ | exact ⟨hs.ldM rfl rfl, by first | rfl | assumption | exact encV_len _ | exact Enc.len _ | exact len_ub (by assumption)⟩ | exact ⟨hs.ldM (by assumption) (by first | rfl | assumption), by first | rfl | assumption | exact encV_len _ | exact Enc.len _ | exact len_ub (by assumption)⟩ | exact ⟨by assumption, by first | rfl | assumption | exact encV_len _ | exact Enc.len _ | exact len_ub (by assumption)⟩ | exact hs.ldp | exact At.partC (by assumption))) ?_
      refine R.sallocA hs Tryd.zr81 rfl ?_
      intro b6 w6 hs
      first | refine R.cstoreAll hs rfl rfl Tryd.sz81 (by first | rfl | assumption | exact encV_len _ | exact Enc.len _ | exact len_ub (by assumption) | simp [*]) (by first | rfl | assumption | exact encV_len _ | exact Enc.len _ | exact len_ub (by assumption) | simp [*]) (by first | assumption | exact OneL.all | exact Enc.one _ | exact ub_all _ | (repeat' (first | refine List.forall_mem_cons.2 ⟨?_, ?_⟩ | exact List.forall_mem_nil _ | rfl | exact OneC.one | exact KRow.oneC' (by assumption)))) ?_ | refine R.cstore hs rfl rfl Tryd.sz81 (by first | rfl | assumption | exact encV_len _ | exact Enc.len _ | exact len_ub (by assumption) | simp [*]) (by simp [*]) (by first | assumption | exact OneL.all | exact Enc.one _ | exact ub_all _ | (repeat' (first | refine List.forall_mem_cons.2 ⟨?_, ?_⟩ | exact List.forall_mem_nil _ | rfl | exact OneC.one | exact KRow.oneC' (by assumption)))) ?_
      intro w9_3 hs
      try simp only [List.set_cons_zero, List.set_cons_succ] at hs
      refine R.done ?_
      refine X.keep [(0, _), (3, _), (4, _), (6, _), (26, _), (27, _), (28, _)] ⟨rfl, rfl, rfl, rfl, rfl, rfl, rfl, trivial⟩ ?_
      refine X.next ?_
      refine C.region ?_
      refine R.ev rfl (E.move rfl) ?_
      first | refine R.ev rfl (E.fieldAddr0 0 rfl Tryd.underlying81 rfl Tryd.sz37 rfl) ?_ | refine R.ev rfl (E.fieldAddrN 0 rfl Tryd.underlying81 rfl Tryd.sz37 rfl) ?_
      refine R.ev rfl (E.loadRowC rfl Tryd.underlying37 rfl Tryd.sz37 (by first | exact ⟨hs.ldA, by first | rfl | assumption | exact encV_len _ | exact Enc.len _ | exact len_ub (by assumption)⟩ | exact ⟨hs.ldP rfl, by first | rfl | assumption | exact encV_len _ | exact Enc.len _ | exact len_ub (by assumption)⟩ | exact ⟨hs.ldM rfl rfl, by first | rfl | assumption | exact encV_len _ | exact Enc.len _ | exact len_ub (by assumption)⟩ | exact ⟨hs.ldM (by assumption) (by first | rfl | assumption), by first | rfl | assumption | exact encV_len _ | exact Enc.len _ | exact len_ub (by assumption)⟩ | exact ⟨by assumption, by first | rfl | assumption | exact encV_len _ | exact Enc.len _ | exact len_ub (by assumption)⟩ | exact hs.ldp | exact At.partC (by assumption))) ?_
      first | refine R.ev rfl (E.fieldAddr0 33 rfl Tryd.underlying81 rfl Tryd.sz3 rfl) ?_ | refine R.ev rfl (E.fieldAddrN 33 rfl Tryd.underlying81 rfl Tryd.sz3 rfl) ?_
      refine R.ev rfl (E.load1 rfl Tryd.underlying3 rfl (by first | exact hs.ldc | exact hs.ld rfl | exact hs.ld (by assumption) | exact by assumption | exact At.cellC (by assumption))) ?_
      refine R.ev rfl (E.buildG (r := encR (resO y)) rfl Tryd.underlying43 Tryd.zr43 Tryd.ql43 (by kernel_rfl) (by kernel_rfl) ⟨⟨_, rfl, by first | rfl | exact vsz _ | simp [Value.cells, *]⟩, ⟨_, rfl, by first | rfl | exact vsz _ | simp [Value.cells, *]⟩, trivial⟩ (by first | rfl | simp [setF, fieldsOf, Value.cells])) ?_
      refine R.buildSliceA rfl Tryd.underlying30 Tryd.sz43 Tryd.zr43 rfl (by first | rfl | assumption | exact encV_len _ | exact Enc.len _ | simp [*]) (by decide) (by decide) ?_
      intro b38 w38 n38
      have hs := hs.new n38
      refine R.capp1 ((resO y)) hs rfl rfl Tryd.underlying30 Tryd.by43 (by rfl) rfl (by first | exact hs.ldA | exact hs.ldP rfl | exact by assumption) (by decide) (by first | omega | (simp only [List.length_append, List.length_cons, List.length_nil] at *; omega)) (by first | omega | (simp only [List.length_append, List.length_cons, List.length_nil] at *; omega)) ?_
      intro v39 w39 F39 r39 hs
      refine R.ev rfl (E.assign rfl) ?_
      refine R.done ?_
      refine X.keep [(0, _), (3, _), (4, _), (26, _), (27, _), (28, _)] ⟨rfl, rfl, rfl, rfl, rfl, rfl, trivial⟩ ?_
      refine X.blockNormal ?_
      refine X.next ?_
      refine C.region ?_
      refine R.ev rfl (E.add rfl rfl (by omega) (by omega)) ?_
      refine R.ev rfl (E.move rfl) ?_
      refine R.done ?_
      refine X.keep [(0, _), (3, _), (4, _), (26, _), (27, _), (28, _)] ⟨rfl, rfl, rfl, rfl, rfl, rfl, trivial⟩ ?_
      exact X.again (k + 1, v39, F39) ⟨rfl, rfl, rfl, rfl, rfl, rfl, trivial⟩ ⟨by omega, by rw [take_snoc hy, List.map_append]; exact r39, hs.to⟩ (by show _ - _ < _ - _; omega)
    · refine C.exit ?_
      refine X.thenExit ?_
      refine X.loopExit ?_
      refine X.blockExit ?_
      refine X.next ?_
      refine C.seq ?_
      refine C.region ?_
      refine R.ev rfl (E.move rfl) ?_
      refine R.ev rfl (E.move rfl) ?_
      refine R.ev rfl (E.nilCheck rfl) ?_
      first | refine R.ev rfl (E.fieldAddr0 1 rfl Tryd.underlying78 rfl Tryd.sz76 rfl) ?_ | refine R.ev rfl (E.fieldAddrN 1 rfl Tryd.underlying78 rfl Tryd.sz76 rfl) ?_
      refine R.ev rfl (E.load1 rfl Tryd.underlying76 rfl (by first | exact hs.ldc | exact hs.ld rfl | exact hs.ld (by assumption) | exact by assumption | exact At.cellC (by assumption))) ?_
      refine R.ev rfl (E.move rfl) ?_
      refine R.call ⟨_, _, Tryd.func39, rfl, by kernel_rfl⟩ rfl rfl (delO_any (i := 0) (j := idxN L) (hs.front (F := G)) (by omega) hN hL) ?_
      rintro v2 w12 ⟨F2, r2, hs1⟩
      have hs := hs.back (F := G) hs1
      refine R.ev rfl (E.nilCheck rfl) ?_
      first | refine R.ev rfl (E.fieldAddr0 1 rfl Tryd.underlying78 rfl Tryd.sz76 rfl) ?_ | refine R.ev rfl (E.fieldAddrN 1 rfl Tryd.underlying78 rfl Tryd.sz76 rfl) ?_
      refine R.cstore1 hs rfl rfl Tryd.sz76 (by first | decide | simp [*]) (by first | rfl | exact OneC.one | exact KRow.oneC' (by assumption)) ?_
      intro w12_9 hs
      try simp only [List.set_cons_zero, List.set_cons_succ] at hs
      refine R.done ?_
      refine X.keep [(4, _)] ⟨rfl, trivial⟩ ?_
      refine X.next ?_
      refine C.seq ?_
      refine C.region ?_
      refine R.ev rfl (E.move rfl) ?_
      refine R.ev rfl (E.assign rfl) ?_
      refine R.done ?_
      refine X.keep [(2, _)] ⟨rfl, trivial⟩ ?_
      refine X.next ?_
      refine C.ret ?_
      refine X.ret1 rfl rfl ?_
      have e : k = idxN L := by omega
      rw [e, fin_take] at r1
      rw [fin_drop] at r2
      exact ⟨_, F', r1, Win.mk' (by simpa using r2), hs.to⟩
def filtL (L : List Off) : List Off := L.filter (fun o => !o.outs)
theorem drop_any (hs : Sat K w (F :: Rs)) [hw : Win p sz L F] (hL : L.length ≤ 1000000) : Ret Tryd.prog 26 #[ptr p] w fun r w' => ∃ F' F2, RowL 37 encV 32 r (outsL L) F2 ∧ Win p sz (filtL L) F' ∧ Sat K w' (F2 :: F' :: Rs) := by
  obtain ⟨v, G, rfl, hr⟩ := hw.ex
  obtain ⟨ad, cap, rfl, hc, hcm, had⟩ := hr.val
  have hs := hs.cut
  refine Ret.enter (n := 17) (args := [ptr p]) Tryd.func26 rfl rfl ?_
  refine C.keep [(0, _)] ⟨rfl, trivial⟩ ?_
  refine C.seq ?_
  refine C.region ?_
  refine R.ev rfl (E.assign rfl) ?_
  refine R.done ?_
  refine X.keep [(0, _)] ⟨rfl, trivial⟩ ?_
  refine X.next ?_
  refine C.seq ?_
  refine C.seq ?_
  refine C.region ?_
  refine R.ev rfl (E.move rfl) ?_
  refine R.ev rfl (E.eqlNilF rfl rfl Tryd.underlying25) ?_
  refine R.done ?_
  refine X.keep [(0, _), (5, _)] ⟨rfl, rfl, trivial⟩ ?_
  refine X.next ?_
  refine C.cfalse rfl ?_
  refine C.skip ?_
  refine X.next ?_
  refine C.seq ?_
  refine C.region ?_
  refine R.ev rfl (E.move rfl) ?_
  refine R.call ⟨_, _, Tryd.func15, rfl, by kernel_rfl⟩ rfl rfl (outstanding_any hs hL) ?_
  rintro v3 w3 ⟨F3, r3, hs⟩
  refine R.ev rfl (E.assign rfl) ?_
  refine R.done ?_
  refine X.keep [(0, _), (3, _)] ⟨rfl, rfl, trivial⟩ ?_
  refine X.next ?_
  refine C.seq ?_
  refine C.region ?_
  refine R.ev rfl (E.move rfl) ?_
  refine R.ev rfl (E.move rfl) ?_
  refine R.ev rfl (E.nilCheck rfl) ?_
  first | refine R.ev rfl (E.fieldAddr0 1 rfl Tryd.underlying78 rfl Tryd.sz76 rfl) ?_ | refine R.ev rfl (E.fieldAddrN 1 rfl Tryd.underlying78 rfl Tryd.sz76 rfl) ?_
  refine R.ev rfl (E.load1 rfl Tryd.underlying76 rfl (by first | exact hs.ldc | exact hs.ld rfl | exact hs.ld (by assumption) | exact by assumption | exact At.cellC (by assumption))) ?_
  refine R.call ⟨_, _, Tryd.func42, rfl, by kernel_rfl⟩ rfl rfl (delfO_any (p := Off.outs) (first := []) (cap := []) ⟨_, _, Tryd.func38, rfl, by kernel_rfl⟩ (hs.front (F := G)) hL (fun y _ Hs w' hs' => outs_any y hs')) ?_
  rintro v4 w4 ⟨F4, r4, hs1⟩
  have hs := hs.back (F := G) hs1
  refine R.ev rfl (E.nilCheck rfl) ?_
  first | refine R.ev rfl (E.fieldAddr0 1 rfl Tryd.underlying78 rfl Tryd.sz76 rfl) ?_ | refine R.ev rfl (E.fieldAddrN 1 rfl Tryd.underlying78 rfl Tryd.sz76 rfl) ?_
  refine R.cstore1 hs rfl rfl Tryd.sz76 (by first | decide | simp [*]) (by first | rfl | exact OneC.one | exact KRow.oneC' (by assumption)) ?_
  intro w4_8 hs
  try simp only [List.set_cons_zero, List.set_cons_succ] at hs
  refine R.done ?_
  refine X.keep [(3, _)] ⟨rfl, trivial⟩ ?_
  refine X.next ?_
  refine C.seq ?_
  refine C.region ?_
  refine R.ev rfl (E.move rfl) ?_
  refine R.ev rfl (E.assign rfl) ?_
  refine R.done ?_
  refine X.keep [(2, _)] ⟨rfl, trivial⟩ ?_
  refine X.next ?_
  refine C.ret ?_
  refine X.ret1 rfl rfl ?_
  exact ⟨_, F3, r3, Win.mk' r4, hs.to⟩
def resizeE (n : Int) : Int := if isSz n then 0 else 2
def resizeS (sz n : Int) : Int := if isSz n then n else sz
theorem resize_any (n : Int) (hs : Sat K w (F :: Rs)) [hw : Win p sz L F] : Ret Tryd.prog 21 #[ptr p, .int .i64 n] w fun r w' => r = .int .i64 (resizeE n) ∧ ∃ F', Win p (resizeS sz n) L F' ∧ Sat K w' (F' :: Rs) := by
  obtain ⟨v, G, rfl, hr⟩ := hw.ex
  have hs := hs.cut
  refine Ret.enter (n := 16) (args := [ptr p, .int .i64 n]) Tryd.func21 rfl rfl ?_
  refine C.keep [(0, _), (1, _)] ⟨rfl, rfl, trivial⟩ ?_
  refine C.seq ?_
  refine C.region ?_
  refine R.ev rfl (E.assign rfl) ?_
  refine R.done ?_
  refine X.keep [(0, _), (1, _)] ⟨rfl, rfl, trivial⟩ ?_
  refine X.next ?_
  refine C.seq ?_
  refine C.block ?_
  refine C.seq ?_
  refine C.region ?_
  refine R.ev rfl (E.move rfl) ?_
  refine R.ev rfl (E.eqlNilF rfl rfl Tryd.underlying25) ?_
  refine R.ev rfl (E.assign rfl) ?_
  refine R.done ?_
  refine X.keep [(0, _), (1, _), (5, _)] ⟨rfl, rfl, rfl, trivial⟩ ?_
  refine X.next ?_
  refine C.cfalse rfl ?_
  refine C.seq ?_
  refine C.region ?_
  refine R.ev rfl (E.move rfl) ?_
  refine R.call ⟨_, _, Tryd.func36, rfl, by kernel_rfl⟩ rfl rfl (isSize_any n _) ?_
  rintro _ _ ⟨rfl, rfl⟩
  refine R.ev rfl ((E.not rfl).isB (c := !(isSz n)) rfl) ?_
  refine R.ev rfl (E.assign rfl) ?_
  refine R.done ?_
  refine X.keep [(0, _), (1, _), (8, _)] ⟨rfl, rfl, rfl, trivial⟩ ?_
  refine X.next ?_
  refine C.cbool rfl (fun h8 => ?_) (fun h8 => ?_)
  · refine C.seq ?_
    refine C.region ?_
    refine R.ev rfl (E.assign rfl) ?_
    refine R.done ?_
    refine X.keep [(4, _)] ⟨rfl, trivial⟩ ?_
    refine X.next ?_
    refine C.ret ?_
    refine X.blockRet ?_
    refine X.thenRet ?_
    refine X.ret1 rfl rfl ?_
    have h8 : isSz n = false := by simpa using h8
    exact ⟨by rw [resizeE, h8]; rfl, _, by rw [resizeS, h8]; exact Win.mk' hr, hs.join⟩
  · refine C.skip ?_
    refine X.blockNormal ?_
    refine X.next ?_
    refine C.seq ?_
    refine C.region ?_
    refine R.ev rfl (E.move rfl) ?_
    refine R.ev rfl (E.move rfl) ?_
    refine R.ev rfl (E.nilCheck rfl) ?_
    first | refine R.ev rfl (E.fieldAddr0 0 rfl Tryd.underlying78 rfl Tryd.sz3 rfl) ?_ | refine R.ev rfl (E.fieldAddrN 0 rfl Tryd.underlying78 rfl Tryd.sz3 rfl) ?_
    refine R.cstore1 hs rfl rfl Tryd.sz3 (by first | decide | simp [*]) (by first | rfl | exact OneC.one | exact KRow.oneC' (by assumption)) ?_
    intro w5_4 hs
    try simp only [List.set_cons_zero, List.set_cons_succ] at hs
    refine R.done ?_
    refine X.keep [] trivial ?_
    refine X.next ?_
    refine C.seq ?_
    refine C.region ?_
    refine R.ev rfl (E.assign rfl) ?_
    refine R.done ?_
    refine X.keep [(4, _)] ⟨rfl, trivial⟩ ?_
    refine X.next ?_
    refine C.ret ?_
    refine X.ret1 rfl rfl ?_
    have h8 : isSz n = true := by simpa using h8
    exact ⟨by rw [resizeE, h8]; rfl, _, by rw [resizeS, h8]; exact Win.mk' hr, hs.join⟩
theorem clone_any (hs : Sat K w Hs) [hw : WinIn p sz L Hs] (hL : L.length ≤ 1000000) : Ret Tryd.prog 32 #[ptr p] w fun r w' => ∃ q F', r = ptr q ∧ Win q sz L F' ∧ Sat K w' (F' :: Hs) := by
  obtain ⟨v, G, _, hr, _⟩ := hw.ex
  obtain ⟨ad, cap, rfl, hc, hcm, had⟩ := hr.val
  refine Ret.enter (n := 16) (args := [ptr p]) Tryd.func32 rfl rfl ?_
  refine C.keep [(0, _)] ⟨rfl, trivial⟩ ?_
  refine C.seq ?_
  refine C.region ?_
  refine R.ev rfl (E.assign rfl) ?_
  refine R.done ?_
  refine X.keep [(0, _)] ⟨rfl, trivial⟩ ?_
  refine X.next ?_
  refine C.seq ?_
  refine C.seq ?_
  refine C.region ?_
  refine R.ev rfl (E.move rfl) ?_
  refine R.ev rfl (E.eqlNilF rfl rfl Tryd.underlying25) ?_
  refine R.done ?_
  refine X.keep [(0, _), (4, _)] ⟨rfl, rfl, trivial⟩ ?_
  refine X.next ?_
  refine C.cfalse rfl ?_
  refine C.skip ?_
  refine X.next ?_
  refine C.seq ?_
  refine C.drawn (SatS hs) ([3, 7], [0, 1, 2, 4, 5, 6, 9, 11]) (by kernel_rfl) ?_
  have hs := hs.drew
  refine D.evP 0 rfl (by kernel_rfl) rfl (fun _ => hs.to) (fun _ => E.move rfl) ?_
  refine D.evP 1 rfl (by kernel_rfl) rfl (fun _ => hs.to) (fun _ => E.nilCheck rfl) ?_
  first | refine D.evP 2 rfl (by kernel_rfl) rfl (fun _ => hs.to) (fun _ => E.fieldAddr0 0 rfl Tryd.underlying78 rfl Tryd.sz3 rfl) ?_ | refine D.evP 2 rfl (by kernel_rfl) rfl (fun _ => hs.to) (fun _ => E.fieldAddrN 0 rfl Tryd.underlying78 rfl Tryd.sz3 rfl) ?_
  refine D.evP 4 rfl (by kernel_rfl) rfl (fun _ => hs.to) (fun _ => E.move rfl) ?_
  refine D.evP 5 rfl (by kernel_rfl) rfl (fun _ => hs.to) (fun _ => E.nilCheck rfl) ?_
  first | refine D.evP 6 rfl (by kernel_rfl) rfl (fun _ => hs.to) (fun _ => E.fieldAddr0 1 rfl Tryd.underlying78 rfl Tryd.sz76 rfl) ?_ | refine D.evP 6 rfl (by kernel_rfl) rfl (fun _ => hs.to) (fun _ => E.fieldAddrN 1 rfl Tryd.underlying78 rfl Tryd.sz76 rfl) ?_
  refine D.ev 3 rfl (by kernel_rfl) rfl hs.to (fun _ hS => E.load1 rfl Tryd.underlying3 rfl (by first | exact hS.ldc | exact hS.ld rfl | exact hS.ld (by assumption) | exact by assumption | exact At.cellC (by assumption) | exact At.cellC ((by assumption : ∀ w', Sat _ w' _ → At w' _ _ _) _ hS) | exact (by assumption : ∀ w', Sat _ w' _ → World.cell? w' _ = some _) _ hS)) ?_
  refine D.ev 7 rfl (by kernel_rfl) rfl hs.to (fun _ hS => E.load1 rfl Tryd.underlying76 rfl (by first | exact hS.ldc | exact hS.ld rfl | exact hS.ld (by assumption) | exact by assumption | exact At.cellC (by assumption) | exact At.cellC ((by assumption : ∀ w', Sat _ w' _ → At w' _ _ _) _ hS) | exact (by assumption : ∀ w', Sat _ w' _ → World.cell? w' _ = some _) _ hS)) ?_
  refine D.act 8 rfl (by kernel_rfl) ?_
  refine R.call ⟨_, _, Tryd.func43, rfl, by kernel_rfl⟩ rfl rfl (cloneO_any hs hL) ?_
  rintro v3 w3 ⟨F3, r3, hs⟩
  refine D.back hs.to ?_
  refine D.evP 9 rfl (by kernel_rfl) rfl (fun _ => hs.to) (fun _ => E.buildF (r := [.int .i64 sz, v3]) rfl Tryd.underlying78 Tryd.zr78 Tryd.pl78 (by kernel_rfl) (by kernel_rfl) ⟨⟨_, rfl, rfl⟩, ⟨_, rfl, by obtain ⟨ad', cap', rfl, _⟩ := r3.val; rfl⟩, trivial⟩ (by obtain ⟨ad', cap', rfl, _⟩ := r3.val; rfl)) ?_
  refine D.act 10 rfl (by kernel_rfl) ?_
  refine R.sboxA hs rfl rfl ?_
  intro b15 w15 hs
  refine D.backT (by kernel_rfl) ?_
  refine D.evP 11 rfl (by kernel_rfl) rfl (np (by kernel_rfl)) (fun _ => E.assign rfl) ?_
  refine D.done rfl (by kernel_rfl) ?_
  refine X.keep [(2, _)] ⟨rfl, trivial⟩ ?_
  refine X.next ?_
  refine C.ret ?_
  refine X.ret1 rfl rfl ?_
  exact ⟨_, _, rfl, Win.mk' r3, hs.join⟩
theorem equal_any {q : Nat} {sz' : Int} {L' : List Off} (hs : Sat K w Hs) [hw : WinIn p sz L Hs] [hw' : WinIn q sz' L' Hs] : Ret Tryd.prog 35 #[ptr p, ptr q] w fun r w' => r = .bool (decide (sz = sz' ∧ L = L')) ∧ Sat K w' Hs := by
  obtain ⟨v, G, _, hr, _⟩ := hw.ex
  obtain ⟨ad, cap, rfl, hc, hcm, had⟩ := hr.val
  obtain ⟨v', G', _, hr', _⟩ := hw'.ex
  obtain ⟨ad', cap', rfl, hc', hcm', had'⟩ := hr'.val
  unfold maxLen at hcm
  refine Ret.enter (n := 37) (args := [ptr p, ptr q]) Tryd.func35 rfl rfl ?_
  refine C.keep [(0, _), (1, _)] ⟨rfl, rfl, trivial⟩ ?_
  refine C.seq ?_
  refine C.region ?_
  refine R.ev rfl (E.assign rfl) ?_
  refine R.done ?_
  refine X.keep [(0, _), (1, _)] ⟨rfl, rfl, trivial⟩ ?_
  refine X.next ?_
  refine C.seq ?_
  refine C.seq ?_
  refine C.region ?_
  refine R.ev rfl (E.move rfl) ?_
  refine R.ev rfl (E.eqlNilF rfl rfl Tryd.underlying25) ?_
  refine R.ev rfl (E.move rfl) ?_
  refine R.gyes rfl rfl ?_
  refine R.ev rfl (E.move rfl) ?_
  refine R.gyes rfl rfl ?_
  refine R.ev rfl (E.eqlNilF rfl rfl Tryd.underlying25) ?_
  refine R.ev rfl (E.pickF rfl rfl) ?_
  refine R.done ?_
  refine X.keep [(0, _), (1, _), (10, _)] ⟨rfl, rfl, rfl, trivial⟩ ?_
  refine X.next ?_
  refine C.cfalse rfl ?_
  refine C.skip ?_
  refine X.next ?_
  refine C.seq ?_
  refine C.drawn (SatS hs) ([3, 7, 13, 17], [0, 1, 2, 4, 5, 6, 8, 9, 10, 11, 12, 14, 15, 16, 19, 20]) (by kernel_rfl) ?_
  have hs := hs.drew
  refine D.evP 0 rfl (by kernel_rfl) rfl (fun _ => hs.to) (fun _ => E.move rfl) ?_
  refine D.evP 1 rfl (by kernel_rfl) rfl (fun _ => hs.to) (fun _ => E.nilCheck rfl) ?_
  first | refine D.evP 2 rfl (by kernel_rfl) rfl (fun _ => hs.to) (fun _ => E.fieldAddr0 0 rfl Tryd.underlying78 rfl Tryd.sz3 rfl) ?_ | refine D.evP 2 rfl (by kernel_rfl) rfl (fun _ => hs.to) (fun _ => E.fieldAddrN 0 rfl Tryd.underlying78 rfl Tryd.sz3 rfl) ?_
  refine D.evP 4 rfl (by kernel_rfl) rfl (fun _ => hs.to) (fun _ => E.move rfl) ?_
  refine D.evP 5 rfl (by kernel_rfl) rfl (fun _ => hs.to) (fun _ => E.nilCheck rfl) ?_
  first | refine D.evP 6 rfl (by kernel_rfl) rfl (fun _ => hs.to) (fun _ => E.fieldAddr0 0 rfl Tryd.underlying78 rfl Tryd.sz3 rfl) ?_ | refine D.evP 6 rfl (by kernel_rfl) rfl (fun _ => hs.to) (fun _ => E.fieldAddrN 0 rfl Tryd.underlying78 rfl Tryd.sz3 rfl) ?_
  refine D.ev 3 rfl (by kernel_rfl) rfl hs.to (fun _ hS => E.load1 rfl Tryd.underlying3 rfl (by first | exact hS.ldc | exact hS.ld rfl | exact hS.ld (by assumption) | exact by assumption | exact At.cellC (by assumption) | exact At.cellC ((by assumption : ∀ w', Sat _ w' _ → At w' _ _ _) _ hS) | exact (by assumption : ∀ w', Sat _ w' _ → World.cell? w' _ = some _) _ hS)) ?_
  refine D.ev 7 rfl (by kernel_rfl) rfl hs.to (fun _ hS => E.load1 rfl Tryd.underlying3 rfl (by first | exact hS.ldc | exact hS.ld rfl | exact hS.ld (by assumption) | exact by assumption | exact At.cellC (by assumption) | exact At.cellC ((by assumption : ∀ w', Sat _ w' _ → At w' _ _ _) _ hS) | exact (by assumption : ∀ w', Sat _ w' _ → World.cell? w' _ = some _) _ hS)) ?_
  refine D.evP 8 rfl (by kernel_rfl) rfl (fun _ => hs.to) (fun _ => E.eql rfl rfl) ?_
  refine D.evP 9 rfl (by kernel_rfl) rfl (fun _ => hs.to) (fun _ => E.move rfl) ?_
  refine D.split 26 rfl (fun h26 => ?_) (fun h26 => ?_)
  · refine D.evPG 10 rfl (by kernel_rfl) rfl rfl rfl (fun _ => hs.to) (fun _ => E.move rfl) ?_
    refine D.evPG 11 rfl (by kernel_rfl) rfl rfl rfl (fun _ => hs.to) (fun _ => E.nilCheck rfl) ?_
    first | refine D.evPG 12 rfl (by kernel_rfl) rfl rfl rfl (fun _ => hs.to) (fun _ => E.fieldAddr0 1 rfl Tryd.underlying78 rfl Tryd.sz76 rfl) ?_ | refine D.evPG 12 rfl (by kernel_rfl) rfl rfl rfl (fun _ => hs.to) (fun _ => E.fieldAddrN 1 rfl Tryd.underlying78 rfl Tryd.sz76 rfl) ?_
    refine D.evPG 14 rfl (by kernel_rfl) rfl rfl rfl (fun _ => hs.to) (fun _ => E.move rfl) ?_
    refine D.evPG 15 rfl (by kernel_rfl) rfl rfl rfl (fun _ => hs.to) (fun _ => E.nilCheck rfl) ?_
    first | refine D.evPG 16 rfl (by kernel_rfl) rfl rfl rfl (fun _ => hs.to) (fun _ => E.fieldAddr0 1 rfl Tryd.underlying78 rfl Tryd.sz76 rfl) ?_ | refine D.evPG 16 rfl (by kernel_rfl) rfl rfl rfl (fun _ => hs.to) (fun _ => E.fieldAddrN 1 rfl Tryd.underlying78 rfl Tryd.sz76 rfl) ?_
    refine D.evG 13 rfl (by kernel_rfl) rfl rfl rfl hs.to (fun _ hS => E.load1 rfl Tryd.underlying76 rfl (by first | exact hS.ldc | exact hS.ld rfl | exact hS.ld (by assumption) | exact by assumption | exact At.cellC (by assumption) | exact At.cellC ((by assumption : ∀ w', Sat _ w' _ → At w' _ _ _) _ hS) | exact (by assumption : ∀ w', Sat _ w' _ → World.cell? w' _ = some _) _ hS)) ?_
    refine D.evG 17 rfl (by kernel_rfl) rfl rfl rfl hs.to (fun _ hS => E.load1 rfl Tryd.underlying76 rfl (by first | exact hS.ldc | exact hS.ld rfl | exact hS.ld (by assumption) | exact by assumption | exact At.cellC (by assumption) | exact At.cellC ((by assumption : ∀ w', Sat _ w' _ → At w' _ _ _) _ hS) | exact (by assumption : ∀ w', Sat _ w' _ → World.cell? w' _ = some _) _ hS)) ?_
    refine D.act 18 rfl (by kernel_rfl) ?_
    refine R.gyes rfl rfl ?_
    refine R.call ⟨_, _, Tryd.func44, rfl, by kernel_rfl⟩ rfl rfl (eqO_any (L := L) (M := L') hs (by omega)) ?_
    rintro _ w3 ⟨rfl, hs⟩
    refine D.backT (by kernel_rfl) ?_
    refine D.evP 19 rfl (by kernel_rfl) rfl (np (by kernel_rfl)) (fun _ => E.pickT rfl rfl) ?_
    refine D.evP 20 rfl (by kernel_rfl) rfl (np (by kernel_rfl)) (fun _ => E.assign rfl) ?_
    refine D.done rfl (by kernel_rfl) ?_
    refine X.keep [(4, _)] ⟨rfl, trivial⟩ ?_
    refine X.next ?_
    refine C.ret ?_
    refine X.ret1 rfl rfl ?_
    exact ⟨by simp_all, hs⟩
  · refine D.skipP 10 rfl (by kernel_rfl) rfl rfl rfl (fun _ => hs.to) ?_
    refine D.skipP 11 rfl (by kernel_rfl) rfl rfl rfl (fun _ => hs.to) ?_
    refine D.skipP 12 rfl (by kernel_rfl) rfl rfl rfl (fun _ => hs.to) ?_
    refine D.skipP 14 rfl (by kernel_rfl) rfl rfl rfl (fun _ => hs.to) ?_
    refine D.skipP 15 rfl (by kernel_rfl) rfl rfl rfl (fun _ => hs.to) ?_
    refine D.skipP 16 rfl (by kernel_rfl) rfl rfl rfl (fun _ => hs.to) ?_
    refine D.skip 13 rfl (by kernel_rfl) rfl rfl rfl hs.to ?_
    refine D.skip 17 rfl (by kernel_rfl) rfl rfl rfl hs.to ?_
    refine D.act 18 rfl (by kernel_rfl) ?_
    refine R.gskip rfl rfl rfl ?_
    refine D.backT (by kernel_rfl) ?_
    refine D.evP 19 rfl (by kernel_rfl) rfl (np (by kernel_rfl)) (fun _ => E.pickF rfl rfl) ?_
    refine D.evP 20 rfl (by kernel_rfl) rfl (np (by kernel_rfl)) (fun _ => E.assign rfl) ?_
    refine D.done rfl (by kernel_rfl) ?_
    refine X.keep [(4, _)] ⟨rfl, trivial⟩ ?_
    refine X.next ?_
    refine C.ret ?_
    refine X.ret1 rfl rfl ?_
    exact ⟨by simp_all, hs⟩
end Go.Proofs.YtajbclcpkgenbaaDoor
