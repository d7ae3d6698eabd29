/-
  package wildmat: Compile, ParseList, Verdict, Selects, for the patterns of this law (no ? and no class).
-/
import Derived.Test.YtifghjeapfijkaaGreatDoorWil
namespace Go.Proofs.YtifghjeapfijkaaGreatDoor
open Go.Eng Go.RowKit

def elOf (c : UInt8) : El := if ((c.toNat : Nat) : Int) = 42 then none else some c
def okC (c : UInt8) : Prop := ¬ ((c.toNat : Nat) : Int) = 63 ∧ ¬ ((c.toNat : Nat) : Int) = 91 ∧ (((c.toNat : Nat) : Int) = 42 ∨ 0 ≤ idxL c nameC 0)
instance {c : UInt8} : Decidable (okC c) := by unfold okC; infer_instance
variable {K : Kn} {Hs Rs : List Hl} {F : Hl} {w : World} {p : Nat}
theorem drop1 {l : List UInt8} {k : Nat} (h : k < l.length) : (l.drop k).take (k + 1 - k) = [l.getD k 0] := by
  rw [List.drop_eq_getElem_cons h, show k + 1 - k = 1 by omega, List.take_succ_cons, List.take_zero]
  simp [h]
theorem map_snoc {l : List UInt8} {k : Nat} (h : k < l.length) : (l.take (k + 1)).map elOf = (l.take k).map elOf ++ [elOf (l.getD k 0)] := by
  rw [List.take_succ_eq_append_getElem h, List.map_append]
  simp [h]
theorem compile_any (l : List UInt8) (h0 : l ≠ []) (h80 : l.length ≤ 80) (hok : ∀ c ∈ l, okC c) (hs : Sat K w Hs) :
    Ret Tryz.prog 48 #[str l] w fun v w' => ∃ K' p, KLe K K' ∧ v = .tuple #[ptr p, .int .i64 0, .int .i64 0] ∧ KPat K' p (l.map elOf) ∧ Sat K' w' Hs := by
  refine Ret.enter (n := 103) (args := [str l]) Tryz.func48 rfl rfl ?_
  refine C.keep [(0, _)] ⟨rfl, trivial⟩ ?_
  refine C.seq ?_
  refine C.region ?_
  refine R.ev rfl (E.assign rfl) ?_
  refine R.ev rfl (E.assign rfl) ?_
  refine R.ev rfl (E.assign rfl) ?_
  refine R.done ?_
  refine X.keep [(0, _)] ⟨rfl, trivial⟩ ?_
  refine X.next ?_
  refine C.seq ?_
  refine C.block ?_
  refine C.seq ?_
  refine C.region ?_
  refine R.ev rfl (E.move rfl) ?_
  refine R.ev rfl ((E.seql rfl rfl).isF (by exact h0)) ?_
  refine R.ev rfl (E.assign rfl) ?_
  refine R.done ?_
  refine X.keep [(0, _), (10, _)] ⟨rfl, rfl, trivial⟩ ?_
  refine X.next ?_
  refine C.cfalse rfl ?_
  refine C.seq ?_
  refine C.region ?_
  refine R.ev rfl (E.move rfl) ?_
  refine R.ev rfl (E.lenStr rfl Tryz.underlying9) ?_
  refine R.ev rfl ((E.gtr rfl rfl).isF (by omega)) ?_
  refine R.ev rfl (E.assign rfl) ?_
  refine R.done ?_
  refine X.keep [(0, _), (13, _)] ⟨rfl, rfl, trivial⟩ ?_
  refine X.next ?_
  refine C.cfalse rfl ?_
  refine C.skip ?_
  refine X.blockNormal ?_
  refine X.next ?_
  refine C.seq ?_
  refine C.region ?_
  refine R.ev rfl (E.move rfl) ?_
  refine R.ev rfl (E.buildG (r := [str l, .slice none 0 0]) rfl Tryz.underlying118 Tryz.zr118 Tryz.ql118 (by kernel_rfl) (by kernel_rfl) ⟨⟨_, rfl, rfl⟩, trivial⟩ rfl) ?_
  refine R.sboxA hs rfl rfl ?_
  intro b19 w19 hs
  refine R.ev rfl (E.assign rfl) ?_
  refine R.done ?_
  refine X.keep [(0, _), (5, _)] ⟨rfl, rfl, trivial⟩ ?_
  refine X.next ?_
  refine C.seq ?_
  refine C.seq ?_
  refine C.region ?_
  refine R.ev rfl (E.assign rfl) ?_
  refine R.done ?_
  refine X.keep [(0, _), (5, _), (6, _)] ⟨rfl, rfl, rfl, trivial⟩ ?_
  refine X.next ?_
  refine C.block ?_
  refine C.loop (T := Nat × Value × Hl) [(0, _), (5, _)] (fun (k, _) => [(6, .int .i64 (k : Nat))]) (fun (k, v, F') w' => k ≤ l.length ∧ RowL 131 encEl 1 v ((l.take k).map elOf) F' ∧ Sat K w' (row b19 118 [str l, v] :: F' :: Hs)) (fun (k, _) => l.length - k) ((0, .slice none 0 0, [])) ⟨rfl, rfl, rfl, trivial⟩ ⟨Nat.zero_le _, RowL.nil _ _ _, hs.nil.p1⟩ ?_
  rintro ⟨k, v, F1⟩ w1 ⟨hk, r1, hs⟩
  have hlen : ((l.take k).map elOf).length ≤ 80 := by rw [List.length_map, List.length_take]; omega
  refine C.keep [(0, _), (5, _), (6, _)] ⟨rfl, rfl, rfl, trivial⟩ ?_
  refine C.seq ?_
  refine C.seq ?_
  refine C.region ?_
  refine R.ev rfl (E.move rfl) ?_
  refine R.ev rfl (E.move rfl) ?_
  refine R.ev rfl (E.lenStr rfl Tryz.underlying9) ?_
  refine R.ev rfl (E.lss rfl rfl) ?_
  refine R.done ?_
  refine X.keep [(0, _), (5, _), (6, _), (23, _)] ⟨rfl, rfl, rfl, rfl, trivial⟩ ?_
  refine X.next ?_
  refine C.cdec rfl (fun h23 => ?_) (fun h23 => ?_)
  · obtain ⟨hc1, hc2, hc3⟩ := hok (l.getD k 0) (by rw [List.getD_eq_getElem?_getD, List.getElem?_eq_getElem (by omega)]; exact List.getElem_mem _)
    have hsn := map_snoc (l := l) (k := k) (by omega)
    refine C.skip ?_
    refine X.next ?_
    refine C.block ?_
    refine C.seq ?_
    refine C.region ?_
    refine R.ev rfl (E.assign rfl) ?_
    refine R.done ?_
    refine X.keep [(0, _), (5, _), (6, _), (7, _)] ⟨rfl, rfl, rfl, rfl, trivial⟩ ?_
    refine X.next ?_
    refine C.seq ?_
    refine C.seq ?_
    refine C.region ?_
    refine R.ev rfl (E.move rfl) ?_
    refine R.ev rfl (E.move rfl) ?_
    refine R.ev rfl (E.sindex rfl rfl Tryz.underlying9 rfl (by first | omega | decide)) ?_
    refine R.ev rfl (E.assign rfl) ?_
    refine R.done ?_
    refine X.keep [(0, _), (5, _), (6, _), (7, _), (8, _)] ⟨rfl, rfl, rfl, rfl, rfl, trivial⟩ ?_
    refine X.next ?_
    refine C.block ?_
    refine C.seq ?_
    refine C.region ?_
    refine R.ev rfl (E.move rfl) ?_
    refine R.ev rfl ((E.eql rfl rfl).isF (by exact hc1)) ?_
    refine R.ev rfl (E.assign rfl) ?_
    refine R.done ?_
    refine X.keep [(0, _), (5, _), (6, _), (7, _), (8, _), (28, _)] ⟨rfl, rfl, rfl, rfl, rfl, rfl, trivial⟩ ?_
    refine X.next ?_
    refine C.cfalse rfl ?_
    refine C.seq ?_
    refine C.region ?_
    refine R.ev rfl (E.move rfl) ?_
    refine R.ev rfl (E.eql rfl rfl) ?_
    refine R.ev rfl (E.assign rfl) ?_
    refine R.done ?_
    refine X.keep [(0, _), (5, _), (6, _), (7, _), (8, _), (42, _)] ⟨rfl, rfl, rfl, rfl, rfl, rfl, trivial⟩ ?_
    refine X.next ?_
    refine C.cdec rfl (fun h42 => ?_) (fun h42 => ?_)
    · have hel : elOf (l.getD k 0) = none := by rw [elOf, if_pos h42]
      refine C.region ?_
      refine R.ev rfl (E.move rfl) ?_
      refine R.ev rfl (E.move rfl) ?_
      refine R.ev rfl (E.nilCheck rfl) ?_
      first | refine R.ev rfl (E.fieldAddr0 1 rfl Tryz.underlying118 rfl Tryz.sz116 rfl) ?_ | refine R.ev rfl (E.fieldAddrN 1 rfl Tryz.underlying118 rfl Tryz.sz116 rfl) ?_
      refine R.ev rfl (E.load1 rfl Tryz.underlying116 rfl (by first | exact hs.ldc | exact hs.ld rfl | exact hs.ld (by assumption) | exact by assumption | exact At.cellC (by assumption) | exact hs.ldK rfl)) ?_
      refine R.ev rfl (E.buildG (r := []) rfl Tryz.underlying121 Tryz.zr121 Tryz.ql121 (by kernel_rfl) (by kernel_rfl) trivial rfl) ?_
      refine R.ev rfl (E.mkIface rfl Tryz.underlying121 rfl) ?_
      refine R.buildSlice1 (parts := [(0, .tmp 51)]) (vs := [_]) rfl rfl rfl Tryz.underlying116 Tryz.sz131 Tryz.zr131 rfl (by simp [Value.oneCell']) (by decide) ?_
      intro b52 w52 n52
      have hs := hs.new n52
      refine R.capp1 (none) hs rfl rfl Tryz.underlying116 Tryz.by131 (by rfl) rfl (by first | exact hs.ldA | exact hs.ldP rfl | exact by assumption) (by decide) (by first | omega | (simp only [List.length_append, List.length_cons, List.length_nil] at *; omega)) (by first | omega | (simp only [List.length_append, List.length_cons, List.length_nil] at *; omega)) ?_
      intro v53 w53 F53 r53 hs
      refine R.ev rfl (E.nilCheck rfl) ?_
      first | refine R.ev rfl (E.fieldAddr0 1 rfl Tryz.underlying118 rfl Tryz.sz116 rfl) ?_ | refine R.ev rfl (E.fieldAddrN 1 rfl Tryz.underlying118 rfl Tryz.sz116 rfl) ?_
      refine R.cstore1 hs rfl rfl Tryz.sz116 (by first | decide | simp [*]) (by first | rfl | exact OneC.one | exact KRow.oneC' (by assumption)) ?_
      intro w14_11 hs
      try simp only [List.set_cons_zero, List.set_cons_succ] at hs
      refine R.done ?_
      refine X.keep [(0, _), (5, _), (6, _), (7, _)] ⟨rfl, rfl, rfl, rfl, trivial⟩ ?_
      refine X.blockNormal ?_
      refine X.next ?_
      refine C.region ?_
      refine R.ev rfl (E.move rfl) ?_
      refine R.ev rfl (E.move rfl) ?_
      refine R.ev rfl (E.add rfl rfl (by omega) (by omega)) ?_
      refine R.ev rfl (E.assign rfl) ?_
      refine R.done ?_
      refine X.keep [(0, _), (5, _), (6, _)] ⟨rfl, rfl, rfl, trivial⟩ ?_
      refine X.blockNormal ?_
      first
        | exact X.again (k + 1, v53, F53) ⟨rfl, rfl, rfl, trivial⟩ ⟨by omega, by rw [hsn, hel]; exact r53, hs.to⟩ (by show _ - _ < _ - _; omega)
        | exact X.again (k + 1, v96, F96) ⟨rfl, rfl, rfl, trivial⟩ ⟨by omega, by rw [hsn, hel]; exact r96, hs.to⟩ (by show _ - _ < _ - _; omega)
    · have hel : elOf (l.getD k 0) = some (l.getD k 0) := by rw [elOf, if_neg h42]
      refine C.seq ?_
      refine C.region ?_
      refine R.ev rfl (E.move rfl) ?_
      refine R.ev rfl ((E.eql rfl rfl).isF (by exact hc2)) ?_
      refine R.ev rfl (E.assign rfl) ?_
      refine R.done ?_
      refine X.keep [(0, _), (5, _), (6, _), (7, _), (8, _), (56, _)] ⟨rfl, rfl, rfl, rfl, rfl, rfl, trivial⟩ ?_
      refine X.next ?_
      refine C.cfalse rfl ?_
      refine C.seq ?_
      refine C.region ?_
      refine R.ev rfl (E.move rfl) ?_
      refine R.call ⟨_, _, Tryz.func67, rfl, by kernel_rfl⟩ rfl rfl (idxStr_any nameC _ _) ?_
      rintro _ _ ⟨rfl, rfl⟩
      refine R.ev rfl ((E.geq rfl rfl).isT (by exact hc3.resolve_left h42)) ?_
      refine R.ev rfl (E.assign rfl) ?_
      refine R.done ?_
      refine X.keep [(0, _), (5, _), (6, _), (7, _), (80, _)] ⟨rfl, rfl, rfl, rfl, rfl, trivial⟩ ?_
      refine X.next ?_
      refine C.ctrue rfl ?_
      refine C.drawn (SatS hs) ([4, 10], [0, 1, 2, 3, 5, 6, 7, 8, 9, 13, 14]) (by kernel_rfl) ?_
      have hs := hs.drew
      refine D.evP 0 rfl (by kernel_rfl) rfl (fun _ => hs.to) (fun _ => E.move rfl) ?_
      refine D.evP 1 rfl (by kernel_rfl) rfl (fun _ => hs.to) (fun _ => E.move rfl) ?_
      refine D.evP 2 rfl (by kernel_rfl) rfl (fun _ => hs.to) (fun _ => E.nilCheck rfl) ?_
      first | refine D.evP 3 rfl (by kernel_rfl) rfl (fun _ => hs.to) (fun _ => E.fieldAddr0 1 rfl Tryz.underlying118 rfl Tryz.sz116 rfl) ?_ | refine D.evP 3 rfl (by kernel_rfl) rfl (fun _ => hs.to) (fun _ => E.fieldAddrN 1 rfl Tryz.underlying118 rfl Tryz.sz116 rfl) ?_
      refine D.evP 5 rfl (by kernel_rfl) rfl (fun _ => hs.to) (fun _ => E.move rfl) ?_
      refine D.evP 6 rfl (by kernel_rfl) rfl (fun _ => hs.to) (fun _ => E.move rfl) ?_
      refine D.evP 7 rfl (by kernel_rfl) rfl (fun _ => hs.to) (fun _ => E.move rfl) ?_
      refine D.evP 8 rfl (by kernel_rfl) rfl (fun _ => hs.to) (fun _ => E.add rfl rfl (by omega) (by omega)) ?_
      refine D.evP 9 rfl (by kernel_rfl) rfl (fun _ => hs.to) (fun _ => (E.ssliceLH (a := k) (b := k + 1) rfl rfl rfl Tryz.underlying9 rfl (by omega) (by omega) (by omega)).as (congrArg str (drop1 (by omega)))) ?_
      refine D.ev 4 rfl (by kernel_rfl) rfl hs.to (fun _ hS => E.load1 rfl Tryz.underlying116 rfl (by first | exact hS.ldc | exact hS.ld rfl | exact hS.ld (by assumption) | exact by assumption | exact At.cellC (by assumption) | exact hS.ldK rfl | exact At.cellC ((by assumption : ∀ w', Sat _ w' _ → At w' _ _ _) _ hS) | exact (by assumption : ∀ w', Sat _ w' _ → World.cell? w' _ = some _) _ hS)) ?_
      refine D.ev 10 rfl (by kernel_rfl) rfl hs.to (fun _ hS => E.mkIface rfl Tryz.underlying126 rfl) ?_
      refine D.act 11 rfl (by kernel_rfl) ?_
      refine R.buildSlice1 (parts := [(0, .tmp 94)]) (vs := [_]) rfl rfl rfl Tryz.underlying116 Tryz.sz131 Tryz.zr131 rfl (by simp [Value.oneCell']) (by decide) ?_
      intro b95 w95 n95
      have hs := hs.new n95
      refine D.back hs.to ?_
      refine D.act 12 rfl (by kernel_rfl) ?_
      refine R.capp1 ((some (l.getD k 0))) hs rfl rfl Tryz.underlying116 Tryz.by131 (by rfl) rfl (by first | exact hs.ldA | exact hs.ldP rfl | exact by assumption) (by decide) (by first | omega | (simp only [List.length_append, List.length_cons, List.length_nil] at *; omega)) (by first | omega | (simp only [List.length_append, List.length_cons, List.length_nil] at *; omega)) ?_
      intro v96 w96 F96 r96 hs
      refine D.backT (by kernel_rfl) ?_
      refine D.evP 13 rfl (by kernel_rfl) rfl (np (by kernel_rfl)) (fun _ => E.nilCheck rfl) ?_
      first | refine D.evP 14 rfl (by kernel_rfl) rfl (np (by kernel_rfl)) (fun _ => E.fieldAddr0 1 rfl Tryz.underlying118 rfl Tryz.sz116 rfl) ?_ | refine D.evP 14 rfl (by kernel_rfl) rfl (np (by kernel_rfl)) (fun _ => E.fieldAddrN 1 rfl Tryz.underlying118 rfl Tryz.sz116 rfl) ?_
      refine D.act 15 rfl (by kernel_rfl) ?_
      refine R.cstore1 hs rfl rfl Tryz.sz116 (by first | decide | simp [*]) (by first | rfl | exact OneC.one | exact KRow.oneC' (by assumption)) ?_
      intro w22_15 hs
      try simp only [List.set_cons_zero, List.set_cons_succ] at hs
      refine D.backT (by kernel_rfl) ?_
      refine D.done rfl (by kernel_rfl) ?_
      refine X.keep [(0, _), (5, _), (6, _), (7, _)] ⟨rfl, rfl, rfl, rfl, trivial⟩ ?_
      refine X.blockNormal ?_
      refine X.next ?_
      refine C.region ?_
      refine R.ev rfl (E.move rfl) ?_
      refine R.ev rfl (E.move rfl) ?_
      refine R.ev rfl (E.add rfl rfl (by omega) (by omega)) ?_
      refine R.ev rfl (E.assign rfl) ?_
      refine R.done ?_
      refine X.keep [(0, _), (5, _), (6, _)] ⟨rfl, rfl, rfl, trivial⟩ ?_
      refine X.blockNormal ?_
      first
        | exact X.again (k + 1, v53, F53) ⟨rfl, rfl, rfl, trivial⟩ ⟨by omega, by rw [hsn, hel]; exact r53, hs.to⟩ (by show _ - _ < _ - _; omega)
        | exact X.again (k + 1, v96, F96) ⟨rfl, rfl, rfl, trivial⟩ ⟨by omega, by rw [hsn, hel]; exact r96, hs.to⟩ (by show _ - _ < _ - _; omega)
  · refine C.exit ?_
    refine X.thenExit ?_
    refine X.loopExit ?_
    refine X.blockExit ?_
    refine X.next ?_
    refine C.seq ?_
    refine C.region ?_
    have hke : k = l.length := by omega
    rw [hke, List.take_length] at r1
    obtain ⟨K1, hK1, hr1, hs⟩ := r1.freezeK hs.p1
    obtain ⟨K2, hK2, hc2, hs⟩ := KCel.of hs
    refine R.ev rfl (E.move rfl) ?_
    refine R.ev rfl (E.assign rfl) ?_
    refine R.ev rfl (E.assign rfl) ?_
    refine R.ev rfl (E.assign rfl) ?_
    refine R.done ?_
    refine X.keep [(2, _), (3, _), (4, _)] ⟨rfl, rfl, rfl, trivial⟩ ?_
    refine X.next ?_
    refine C.ret ?_
    refine X.ret3 rfl rfl rfl rfl ?_
    exact ⟨K2, b19, KLe.trans hK1 hK2, rfl, ⟨l, v, hc2, inferInstance⟩, hs⟩
/-- lists of patterns -/
def encEn (q : Nat × Int) : List Value := [ptr q.1, .int .i64 q.2]
instance : Enc encEn 2 := ⟨fun _ => rfl, fun o u hu => by simp [encEn] at hu; rcases hu with rfl | rfl <;> rfl⟩
instance {o : Nat × Int} : CellOf (encEn o) 0 (ptr o.1) := ⟨rfl⟩
instance {o : Nat × Int} : CellOf (encEn o) 1 (.int .i64 o.2) := ⟨rfl⟩
abbrev Ens := List (List El × Int)
def PsOk (K : Kn) (ps : List (Nat × Int)) (L : Ens) : Prop := ps.length = L.length ∧ ∀ (i : Nat) q, ps[i]? = some q → ∃ e, L[i]? = some e ∧ KPat K q.1 e.1 ∧ q.2 = e.2 ∧ e.1.length ≤ 80
theorem PsOk.mono {K K' : Kn} {ps : List (Nat × Int)} {L : Ens} (h : PsOk K ps L) (k : KLe K K') : PsOk K' ps L := ⟨h.1, fun i q hq => by
  obtain ⟨e, h1, h2, h3⟩ := h.2 i q hq
  exact ⟨e, h1, inferInstance, h3⟩⟩
theorem PsOk.snoc {K : Kn} {ps : List (Nat × Int)} {L : Ens} (h : PsOk K ps L) {q : Nat} {e : List El × Int} (k : KPat K q e.1) (he : e.1.length ≤ 80) : PsOk K (ps ++ [(q, e.2)]) (L ++ [e]) := ⟨by simp [h.1], fun i q' hq => by
  by_cases hi : i < ps.length
  · rw [List.getElem?_append_left hi] at hq
    obtain ⟨e', h1, h2⟩ := h.2 i q' hq
    exact ⟨e', by rw [List.getElem?_append_left (by rw [← h.1]; exact hi)]; exact h1, h2⟩
  · rw [List.getElem?_append_right (by omega)] at hq
    have hi0 : i - ps.length = 0 := by
      rcases Nat.eq_zero_or_pos (i - ps.length) with h | h
      · exact h
      · rw [List.getElem?_eq_none (by simp; omega)] at hq; cases hq
    rw [hi0] at hq
    simp at hq; subst hq
    have : i = L.length := by have := h.1; omega
    subst this
    exact ⟨e, by simp, k, rfl, he⟩⟩
class KLst (K : Kn) (p : Nat) (L : outParam Ens) : Prop where
  ex : ∃ s v ps, KCel K p [str s, v] ∧ KRow encEn 2 K v ps ∧ PsOk K ps L
instance KLst.mono {K K' : Kn} {p : Nat} {L : Ens} [k : KLe K K'] [h : KLst K p L] : KLst K' p L := ⟨by
  obtain ⟨s, v, ps, h1, h2, h3⟩ := h.ex
  exact ⟨s, v, ps, inferInstance, inferInstance, h3.mono k⟩⟩
/-- a part of a list's text -/
def txt (l : List UInt8) : List UInt8 := if pfx l [33] then l.drop 1 else if pfx l [64] then l.drop 1 else l
def vrd (l : List UInt8) : Int := if pfx l [33] then 2 else if pfx l [64] then 3 else 1
def entO (l : List UInt8) : List El × Int := ((txt l).map elOf, vrd l)
def okP (l : List UInt8) : Prop := txt l ≠ [] ∧ (txt l).length ≤ 80 ∧ l.length ≤ 81 ∧ ∀ c ∈ txt l, okC c
instance {l : List UInt8} : Decidable (okP l) := by unfold okP; infer_instance
theorem pfx_len {l : List UInt8} {c : UInt8} (h : pfx l [c] = true) : 1 ≤ l.length := by
  simp [pfx] at h; exact h.1
theorem parseList_any (l : List UInt8) (h0 : l ≠ []) (hl : l.length ≤ 1000) (hn : (splitL 44 l).length ≤ 64) (hok : ∀ q ∈ splitL 44 l, okP q) (hs : Sat K w Hs) :
    Ret Tryz.prog 22 #[str l] w fun v w' => ∃ K' p, KLe K K' ∧ v = .tuple #[ptr p, .int .i64 0, .int .i64 0] ∧ KLst K' p ((splitL 44 l).map entO) ∧ Sat K' w' Hs := by
  refine Ret.enter (n := 84) (args := [str l]) Tryz.func22 rfl rfl ?_
  refine C.keep [(0, _)] ⟨rfl, trivial⟩ ?_
  refine C.seq ?_
  refine C.region ?_
  refine R.ev rfl (E.assign rfl) ?_
  refine R.ev rfl (E.assign rfl) ?_
  refine R.ev rfl (E.assign rfl) ?_
  refine R.done ?_
  refine X.keep [(0, _)] ⟨rfl, trivial⟩ ?_
  refine X.next ?_
  refine C.seq ?_
  refine C.seq ?_
  refine C.region ?_
  refine R.ev rfl (E.move rfl) ?_
  refine R.ev rfl ((E.seql rfl rfl).isF (by exact h0)) ?_
  refine R.done ?_
  refine X.keep [(0, _), (15, _)] ⟨rfl, rfl, trivial⟩ ?_
  refine X.next ?_
  refine C.cfalse rfl ?_
  refine C.skip ?_
  refine X.next ?_
  refine C.seq ?_
  refine C.region ?_
  refine R.ev rfl (E.move rfl) ?_
  refine R.ev rfl (E.buildG (r := [str l, .slice none 0 0]) rfl Tryz.underlying96 Tryz.zr96 Tryz.ql96 (by kernel_rfl) (by kernel_rfl) ⟨⟨_, rfl, rfl⟩, trivial⟩ rfl) ?_
  refine R.sboxA hs rfl rfl ?_
  intro b18 w18 hs
  refine R.ev rfl (E.assign rfl) ?_
  refine R.done ?_
  refine X.keep [(0, _), (5, _)] ⟨rfl, rfl, trivial⟩ ?_
  refine X.next ?_
  refine C.seq ?_
  refine C.region ?_
  refine R.ev rfl (E.assign rfl) ?_
  refine R.done ?_
  refine X.keep [(0, _), (5, _), (6, _)] ⟨rfl, rfl, rfl, trivial⟩ ?_
  refine X.next ?_
  refine C.seq ?_
  refine C.seq ?_
  refine C.region ?_
  refine R.ev rfl (E.move rfl) ?_
  refine R.call ⟨_, _, Tryz.func46, rfl, by kernel_rfl⟩ rfl rfl (split_any l 44 (by omega) hs) ?_
  rintro v20 w20 ⟨F20, r20, hs⟩
  generalize hL : splitL 44 l = L at r20 hn hok
  obtain ⟨ad20, cap20, rfl, _⟩ := r20.val
  refine R.ev rfl (E.lenSl rfl Tryz.underlying30) ?_
  refine R.ev rfl (E.move rfl) ?_
  refine R.done ?_
  refine X.keep [(5, _), (6, _), (20, _), (21, _), (22, _)] ⟨rfl, rfl, rfl, rfl, rfl, trivial⟩ ?_
  refine X.next ?_
  refine C.block ?_
  refine C.loop (T := Kn × Nat × Int × Value × Hl × List (Nat × Int)) [(5, _), (20, _), (21, _)] (fun (_, k, at_, _) => [(6, .int .i64 at_), (22, .int .i64 (k : Nat))]) (fun (K1, k, at_, v, F', ps) w' => KLe K K1 ∧ k ≤ L.length ∧ 0 ≤ at_ ∧ at_ ≤ 82 * k ∧ RowL 100 encEn 2 v ps F' ∧ PsOk K1 ps ((L.take k).map entO) ∧ Sat K1 w' (row b18 96 [str l, v] :: F' :: F20 :: Hs)) (fun (_, k, _) => L.length - k) ((K, 0, 0, .slice none 0 0, [], [])) ⟨rfl, rfl, rfl, rfl, rfl, trivial⟩ ⟨KLe.refl K, Nat.zero_le _, by omega, by omega, RowL.nil _ _ _, ⟨rfl, by simp⟩, hs.nil.to⟩ ?_
  clear hs
  rintro ⟨K1, k, at_, v, F1, ps⟩ w1 ⟨hK1, hk, hat1, hat2, r1, hps, hs⟩
  have hpl : ps.length = k := by rw [hps.1, List.length_map, List.length_take]; omega
  obtain ⟨ad1, cap1, rfl, _⟩ := r1.val
  refine C.keep [(5, _), (6, _), (20, _), (21, _), (22, _)] ⟨rfl, rfl, rfl, rfl, rfl, trivial⟩ ?_
  refine C.seq ?_
  refine C.region ?_
  refine R.ev rfl (E.lss rfl rfl) ?_
  refine R.done ?_
  refine X.keep [(5, _), (6, _), (20, _), (21, _), (22, _), (23, _)] ⟨rfl, rfl, rfl, rfl, rfl, rfl, trivial⟩ ?_
  refine X.next ?_
  refine C.seq ?_
  refine C.cdec rfl (fun h23 => ?_) (fun h23 => ?_)
  · obtain ⟨y, bk_y, of_y, hy, my, ly, rfl, Ay⟩ := hs.el (i := k) (ad := ad20) (n := L.length) (c := cap20) (by omega)
    have ay := Ay _ hs
    obtain ⟨ok1, ok2, ok3, ok4⟩ := hok y my
    refine C.skip ?_
    refine X.next ?_
    refine C.seq ?_
    refine C.block ?_
    refine C.seq ?_
    refine C.region ?_
    refine R.ev rfl (E.indexAddr rfl rfl Tryz.underlying30 Tryz.sz9 rfl (by first | omega | decide)) ?_
    refine R.ev rfl (E.load1 rfl Tryz.underlying9 rfl (ay 0 _ rfl)) ?_
    refine R.ev rfl (E.assign rfl) ?_
    refine R.done ?_
    refine X.keep [(5, _), (6, _), (8, _), (20, _), (21, _), (22, _)] ⟨rfl, rfl, rfl, rfl, rfl, rfl, trivial⟩ ?_
    refine X.next ?_
    refine C.seq ?_
    refine C.seq ?_
    refine C.region ?_
    refine R.ev rfl (E.move rfl) ?_
    refine R.ev rfl (E.nilCheck rfl) ?_
    first | refine R.ev rfl (E.fieldAddr0 1 rfl Tryz.underlying96 rfl Tryz.sz94 rfl) ?_ | refine R.ev rfl (E.fieldAddrN 1 rfl Tryz.underlying96 rfl Tryz.sz94 rfl) ?_
    refine R.ev rfl (E.load1 rfl Tryz.underlying94 rfl (by first | exact hs.ldc | exact hs.ld rfl | exact hs.ld (by assumption) | exact by assumption | exact At.cellC (by assumption) | exact hs.ldK rfl)) ?_
    refine R.ev rfl (E.lenSl rfl Tryz.underlying94) ?_
    refine R.ev rfl ((E.eql rfl rfl).isF (by omega)) ?_
    refine R.done ?_
    refine X.keep [(5, _), (6, _), (8, _), (20, _), (21, _), (22, _), (31, _)] ⟨rfl, rfl, rfl, rfl, rfl, rfl, rfl, trivial⟩ ?_
    refine X.next ?_
    refine C.cfalse rfl ?_
    refine C.skip ?_
    refine X.next ?_
    refine C.seq ?_
    refine C.region ?_
    refine R.ev rfl (E.buildG (r := [.pointer none, .int .i64 1]) rfl Tryz.underlying100 Tryz.zr100 Tryz.ql100 (by kernel_rfl) (by kernel_rfl) ⟨⟨_, rfl, rfl⟩, trivial⟩ rfl) ?_
    refine R.ev rfl (E.move rfl) ?_
    refine R.sallocA hs Tryz.zr100 rfl ?_
    intro b9 w9 hs
    first | refine R.cstoreAll hs rfl rfl Tryz.sz100 (by first | rfl | assumption | exact encV_len _ | exact Enc.len _ | exact len_ub (by assumption) | simp [*]) (by first | rfl | assumption | exact encV_len _ | exact Enc.len _ | exact len_ub (by assumption) | simp [*]) (by first | assumption | exact OneL.all | exact Enc.one _ | exact ub_all _ | (repeat' (first | refine List.forall_mem_cons.2 ⟨?_, ?_⟩ | exact List.forall_mem_nil _ | rfl | exact OneC.one | exact KRow.oneC' (by assumption)))) ?_ | refine R.cstore hs rfl rfl Tryz.sz100 (by first | rfl | assumption | exact encV_len _ | exact Enc.len _ | exact len_ub (by assumption) | simp [*]) (by simp [*]) (by first | assumption | exact OneL.all | exact Enc.one _ | exact ub_all _ | (repeat' (first | refine List.forall_mem_cons.2 ⟨?_, ?_⟩ | exact List.forall_mem_nil _ | rfl | exact OneC.one | exact KRow.oneC' (by assumption)))) ?_
    intro w10_3 hs
    try simp only [List.set_cons_zero, List.set_cons_succ] at hs
    refine R.ev rfl (E.assign rfl) ?_
    refine R.done ?_
    refine X.keep [(5, _), (6, _), (8, _), (9, _), (10, _), (20, _), (21, _), (22, _)] ⟨rfl, rfl, rfl, rfl, rfl, rfl, rfl, rfl, trivial⟩ ?_
    refine X.next ?_
    refine C.seq ?_
    refine C.block ?_
    refine C.seq ?_
    refine C.region ?_
    refine R.ev rfl (E.move rfl) ?_
    refine R.call ⟨_, _, Tryz.func47, rfl, by kernel_rfl⟩ rfl rfl (pfx_any y [33] _) ?_
    rintro _ _ ⟨rfl, rfl⟩
    refine R.ev rfl (E.assign rfl) ?_
    refine R.done ?_
    refine X.keep [(5, _), (6, _), (8, _), (9, _), (10, _), (20, _), (21, _), (22, _), (35, _)] ⟨rfl, rfl, rfl, rfl, rfl, rfl, rfl, rfl, rfl, trivial⟩ ?_
    refine X.next ?_
    refine C.cut [(5, _), (6, _), (8, _), (9, _), (20, _), (21, _), (22, _)] (fun (() : Unit) => [(10, str (txt y))]) (fun _ w' => Sat K1 w' (row b9 100 [.pointer none, .int .i64 (vrd y)] :: row b18 96 [str l, .slice ad1 ps.length cap1] :: F1 :: F20 :: Hs)) ⟨rfl, rfl, rfl, rfl, rfl, rfl, rfl, trivial⟩ ?_ ?_
    · refine C.cbool rfl (fun h35 => ?_) (fun h35 => ?_)
      · have e1 : txt y = y.drop 1 ∧ vrd y = 2 := ⟨by rw [txt, if_pos h35], by rw [vrd, if_pos h35]⟩
        refine C.drawn (SatS hs) ([], [0, 1, 2, 4]) (by kernel_rfl) ?_
        have hs := hs.drew
        refine D.evP 0 rfl (by kernel_rfl) rfl (np (by kernel_rfl)) (fun _ => E.move rfl) ?_
        refine D.evP 1 rfl (by kernel_rfl) rfl (np (by kernel_rfl)) (fun _ => E.ssliceL (a := 1) rfl rfl Tryz.underlying9 rfl (pfx_len h35)) ?_
        first | refine D.evP 2 rfl (by kernel_rfl) rfl (np (by kernel_rfl)) (fun _ => E.fieldAddr0 1 rfl Tryz.underlying100 rfl Tryz.sz3 rfl) ?_ | refine D.evP 2 rfl (by kernel_rfl) rfl (np (by kernel_rfl)) (fun _ => E.fieldAddrN 1 rfl Tryz.underlying100 rfl Tryz.sz3 rfl) ?_
        refine D.act 3 rfl (by kernel_rfl) ?_
        refine R.cstore1 hs rfl rfl Tryz.sz3 (by first | decide | simp [*]) (by first | rfl | exact OneC.one | exact KRow.oneC' (by assumption)) ?_
        intro w12_3 hs
        try simp only [List.set_cons_zero, List.set_cons_succ] at hs
        refine D.backT (by kernel_rfl) ?_
        refine D.evP 4 rfl (by kernel_rfl) rfl (np (by kernel_rfl)) (fun _ => E.assign rfl) ?_
        refine D.done rfl (by kernel_rfl) ?_
        refine X.keep [(5, _), (6, _), (8, _), (9, _), (10, _), (20, _), (21, _), (22, _)] ⟨rfl, rfl, rfl, rfl, rfl, rfl, rfl, rfl, trivial⟩ ?_
        refine X.cut (()) ⟨lkV rfl ?_, rfl, rfl, rfl, rfl, rfl, rfl, rfl, trivial⟩ ?_
        · first | rfl | (rw [e1.1])
        · rw [e1.2]; exact hs.to
      · refine C.seq ?_
        refine C.region ?_
        refine R.ev rfl (E.move rfl) ?_
        refine R.call ⟨_, _, Tryz.func47, rfl, by kernel_rfl⟩ rfl rfl (pfx_any y [64] _) ?_
        rintro _ _ ⟨rfl, rfl⟩
        refine R.ev rfl (E.assign rfl) ?_
        refine R.done ?_
        refine X.keep [(5, _), (6, _), (8, _), (9, _), (10, _), (20, _), (21, _), (22, _), (41, _)] ⟨rfl, rfl, rfl, rfl, rfl, rfl, rfl, rfl, rfl, trivial⟩ ?_
        refine X.next ?_
        refine C.cbool rfl (fun h41 => ?_) (fun h41 => ?_)
        · have e1 : txt y = y.drop 1 ∧ vrd y = 3 := ⟨by rw [txt, h35, h41]; rfl, by rw [vrd, h35, h41]; rfl⟩
          refine C.drawn (SatS hs) ([], [0, 1, 2, 4]) (by kernel_rfl) ?_
          have hs := hs.drew
          refine D.evP 0 rfl (by kernel_rfl) rfl (np (by kernel_rfl)) (fun _ => E.move rfl) ?_
          refine D.evP 1 rfl (by kernel_rfl) rfl (np (by kernel_rfl)) (fun _ => E.ssliceL (a := 1) rfl rfl Tryz.underlying9 rfl (pfx_len h41)) ?_
          first | refine D.evP 2 rfl (by kernel_rfl) rfl (np (by kernel_rfl)) (fun _ => E.fieldAddr0 1 rfl Tryz.underlying100 rfl Tryz.sz3 rfl) ?_ | refine D.evP 2 rfl (by kernel_rfl) rfl (np (by kernel_rfl)) (fun _ => E.fieldAddrN 1 rfl Tryz.underlying100 rfl Tryz.sz3 rfl) ?_
          refine D.act 3 rfl (by kernel_rfl) ?_
          refine R.cstore1 hs rfl rfl Tryz.sz3 (by first | decide | simp [*]) (by first | rfl | exact OneC.one | exact KRow.oneC' (by assumption)) ?_
          intro w14_3 hs
          try simp only [List.set_cons_zero, List.set_cons_succ] at hs
          refine D.backT (by kernel_rfl) ?_
          refine D.evP 4 rfl (by kernel_rfl) rfl (np (by kernel_rfl)) (fun _ => E.assign rfl) ?_
          refine D.done rfl (by kernel_rfl) ?_
          refine X.keep [(5, _), (6, _), (8, _), (9, _), (10, _), (20, _), (21, _), (22, _)] ⟨rfl, rfl, rfl, rfl, rfl, rfl, rfl, rfl, trivial⟩ ?_
          refine X.cut (()) ⟨lkV rfl ?_, rfl, rfl, rfl, rfl, rfl, rfl, rfl, trivial⟩ ?_
          · first | rfl | (rw [e1.1])
          · rw [e1.2]; exact hs.to
        · have e1 : txt y = y ∧ vrd y = 1 := ⟨by rw [txt, h35, h41]; rfl, by rw [vrd, h35, h41]; rfl⟩
          refine C.skip ?_
          refine X.cut (()) ⟨lkV rfl ?_, rfl, rfl, rfl, rfl, rfl, rfl, rfl, trivial⟩ ?_
          · first | rfl | (rw [e1.1])
          · rw [e1.2]; exact hs.to
    · rintro _ w9 hs
      refine X.keep [(5, _), (6, _), (8, _), (9, _), (10, _), (20, _), (21, _), (22, _)] ⟨rfl, rfl, rfl, rfl, rfl, rfl, rfl, rfl, trivial⟩ ?_
      refine X.blockNormal ?_
      refine X.next ?_
      refine C.seq ?_
      refine C.region ?_
      refine R.ev rfl (E.move rfl) ?_
      refine R.call ⟨_, _, Tryz.func48, rfl, by kernel_rfl⟩ rfl rfl (compile_any (txt y) ok1 ok2 ok4 hs) ?_
      rintro _ w15 ⟨K2, q, hK2, rfl, hq, hs⟩
      refine R.ev rfl (E.move rfl) ?_
      refine R.ev rfl (E.extract rfl rfl) ?_
      refine R.ev rfl (E.extract rfl rfl) ?_
      refine R.ev rfl (E.extract rfl rfl) ?_
      refine R.ev rfl (E.assign rfl) ?_
      refine R.ev rfl (E.assign rfl) ?_
      refine R.ev rfl (E.assign rfl) ?_
      refine R.done ?_
      refine X.keep [(5, _), (6, _), (8, _), (9, _), (10, _), (11, _), (12, _), (13, _), (20, _), (21, _), (22, _)] ⟨rfl, rfl, rfl, rfl, rfl, rfl, rfl, rfl, rfl, rfl, rfl, trivial⟩ ?_
      refine X.next ?_
      refine C.seq ?_
      refine C.seq ?_
      refine C.region ?_
      refine R.ev rfl (E.move rfl) ?_
      refine R.ev rfl ((E.neq rfl rfl).isF (by decide)) ?_
      refine R.done ?_
      refine X.keep [(5, _), (6, _), (8, _), (9, _), (10, _), (11, _), (12, _), (13, _), (20, _), (21, _), (22, _), (54, _)] ⟨rfl, rfl, rfl, rfl, rfl, rfl, rfl, rfl, rfl, rfl, rfl, rfl, trivial⟩ ?_
      refine X.next ?_
      refine C.cfalse rfl ?_
      refine C.skip ?_
      refine X.next ?_
      refine C.seq ?_
      refine C.region ?_
      refine R.ev rfl (E.move rfl) ?_
      first | refine R.ev rfl (E.fieldAddr0 0 rfl Tryz.underlying100 rfl Tryz.sz98 rfl) ?_ | refine R.ev rfl (E.fieldAddrN 0 rfl Tryz.underlying100 rfl Tryz.sz98 rfl) ?_
      refine R.cstore1 hs rfl rfl Tryz.sz98 (by first | decide | simp [*]) (by first | rfl | exact OneC.one | exact KRow.oneC' (by assumption)) ?_
      intro w18_2 hs
      try simp only [List.set_cons_zero, List.set_cons_succ] at hs
      refine R.done ?_
      refine X.keep [(5, _), (6, _), (8, _), (9, _), (20, _), (21, _), (22, _)] ⟨rfl, rfl, rfl, rfl, rfl, rfl, rfl, trivial⟩ ?_
      refine X.next ?_
      refine C.seq ?_
      refine C.drawn (SatS hs) ([4, 5], [0, 1, 2, 3, 8, 9]) (by kernel_rfl) ?_
      have hs := hs.drew
      refine D.evP 0 rfl (by kernel_rfl) rfl (fun _ => hs.to) (fun _ => E.move rfl) ?_
      refine D.evP 1 rfl (by kernel_rfl) rfl (fun _ => hs.to) (fun _ => E.move rfl) ?_
      refine D.evP 2 rfl (by kernel_rfl) rfl (fun _ => hs.to) (fun _ => E.nilCheck rfl) ?_
      first | refine D.evP 3 rfl (by kernel_rfl) rfl (fun _ => hs.to) (fun _ => E.fieldAddr0 1 rfl Tryz.underlying96 rfl Tryz.sz94 rfl) ?_ | refine D.evP 3 rfl (by kernel_rfl) rfl (fun _ => hs.to) (fun _ => E.fieldAddrN 1 rfl Tryz.underlying96 rfl Tryz.sz94 rfl) ?_
      refine D.ev 4 rfl (by kernel_rfl) rfl hs.to (fun _ hS => E.load1 rfl Tryz.underlying94 rfl (by first | exact hS.ldc | exact hS.ld rfl | exact hS.ld (by assumption) | exact by assumption | exact At.cellC (by assumption) | exact hS.ldK rfl | exact At.cellC ((by assumption : ∀ w', Sat _ w' _ → At w' _ _ _) _ hS) | exact (by assumption : ∀ w', Sat _ w' _ → World.cell? w' _ = some _) _ hS)) ?_
      refine D.ev 5 rfl (by kernel_rfl) rfl hs.to (fun _ hS => E.loadRowC rfl Tryz.underlying100 rfl Tryz.sz100 (by first | exact ⟨hS.ldA, by first | rfl | assumption | exact encV_len _ | exact Enc.len _ | exact len_ub (by assumption)⟩ | exact ⟨hS.ldP rfl, by first | rfl | assumption | exact encV_len _ | exact Enc.len _ | exact len_ub (by assumption)⟩ | exact ⟨hS.ldM rfl rfl, by first | rfl | assumption | exact encV_len _ | exact Enc.len _ | exact len_ub (by assumption)⟩ | exact ⟨hS.ldM (by assumption) (by first | rfl | assumption), by first | rfl | assumption | exact encV_len _ | exact Enc.len _ | exact len_ub (by assumption)⟩ | exact ⟨by assumption, by first | rfl | assumption | exact encV_len _ | exact Enc.len _ | exact len_ub (by assumption)⟩ | exact ⟨(by assumption : ∀ w', Sat _ w' _ → At w' _ _ _) _ hS, by first | rfl | assumption | exact encV_len _ | exact Enc.len _ | exact len_ub (by assumption)⟩ | exact hS.ldp | exact At.partC (by assumption) | exact At.partC ((by assumption : ∀ w', Sat _ w' _ → At w' _ _ _) _ hS))) ?_
      refine D.act 6 rfl (by kernel_rfl) ?_
      refine R.buildSliceA rfl Tryz.underlying94 Tryz.sz100 Tryz.zr100 rfl (by first | rfl | assumption | exact encV_len _ | exact Enc.len _ | simp [*]) (by decide) (by decide) ?_
      intro b73 w73 n73
      have hs := hs.new n73
      refine D.back hs.to ?_
      refine D.act 7 rfl (by kernel_rfl) ?_
      refine R.capp1 ((q, vrd y)) hs rfl rfl Tryz.underlying94 Tryz.by100 (by rfl) rfl (by first | exact hs.ldA | exact hs.ldP rfl | exact by assumption) (by decide) (by first | omega | (simp only [List.length_append, List.length_cons, List.length_nil] at *; omega)) (by first | omega | (simp only [List.length_append, List.length_cons, List.length_nil] at *; omega)) ?_
      intro v74 w74 F74 r74 hs
      refine D.backT (by kernel_rfl) ?_
      refine D.evP 8 rfl (by kernel_rfl) rfl (np (by kernel_rfl)) (fun _ => E.nilCheck rfl) ?_
      first | refine D.evP 9 rfl (by kernel_rfl) rfl (np (by kernel_rfl)) (fun _ => E.fieldAddr0 1 rfl Tryz.underlying96 rfl Tryz.sz94 rfl) ?_ | refine D.evP 9 rfl (by kernel_rfl) rfl (np (by kernel_rfl)) (fun _ => E.fieldAddrN 1 rfl Tryz.underlying96 rfl Tryz.sz94 rfl) ?_
      refine D.act 10 rfl (by kernel_rfl) ?_
      refine R.cstore1 hs rfl rfl Tryz.sz94 (by first | decide | simp [*]) (by first | rfl | exact OneC.one | exact KRow.oneC' (by assumption)) ?_
      intro w19_10 hs
      try simp only [List.set_cons_zero, List.set_cons_succ] at hs
      refine D.backT (by kernel_rfl) ?_
      refine D.done rfl (by kernel_rfl) ?_
      refine X.keep [(5, _), (6, _), (8, _), (20, _), (21, _), (22, _)] ⟨rfl, rfl, rfl, rfl, rfl, rfl, trivial⟩ ?_
      refine X.next ?_
      refine C.region ?_
      refine R.ev rfl (E.move rfl) ?_
      refine R.ev rfl (E.move rfl) ?_
      refine R.ev rfl (E.lenStr rfl Tryz.underlying9) ?_
      refine R.ev rfl ((E.add rfl rfl (by omega) (by omega)).isI (c := (y.length : Int) + 1) rfl) ?_
      refine R.ev rfl (E.add rfl rfl (by omega) (by omega)) ?_
      refine R.ev rfl (E.assign rfl) ?_
      refine R.done ?_
      refine X.keep [(5, _), (6, _), (20, _), (21, _), (22, _)] ⟨rfl, rfl, rfl, rfl, rfl, trivial⟩ ?_
      refine X.blockNormal ?_
      refine X.next ?_
      refine C.region ?_
      refine R.ev rfl (E.add rfl rfl (by omega) (by omega)) ?_
      refine R.ev rfl (E.move rfl) ?_
      refine R.done ?_
      refine X.keep [(5, _), (6, _), (20, _), (21, _), (22, _)] ⟨rfl, rfl, rfl, rfl, rfl, trivial⟩ ?_
      have htk : (L.take (k + 1)).map entO = (L.take k).map entO ++ [entO y] := by rw [take_snoc hy, List.map_append]; rfl
      have hps2 := (hps.mono hK2).snoc (q := q) (e := entO y) hq (by rw [entO, List.length_map]; exact ok2)
      exact X.again (K2, k + 1, _, v74, F74, ps ++ [(q, vrd y)]) ⟨rfl, rfl, rfl, rfl, rfl, trivial⟩ ⟨KLe.trans hK1 hK2, by omega, by omega, by push_cast; omega, r74, by rw [htk]; exact hps2, hs.to⟩ (by show _ - _ < _ - _; omega)
  · refine C.exit ?_
    refine X.thenExit ?_
    refine X.loopExit ?_
    refine X.blockExit ?_
    refine X.next ?_
    refine C.seq ?_
    refine C.region ?_
    have hke : k = L.length := by omega
    rw [hke, List.take_length] at hps
    obtain ⟨K3, hK3, hr3, hs⟩ := r1.freezeK hs.p1
    obtain ⟨K4, hK4, hc4, hs⟩ := KCel.of hs
    refine R.ev rfl (E.move rfl) ?_
    refine R.ev rfl (E.assign rfl) ?_
    refine R.ev rfl (E.assign rfl) ?_
    refine R.ev rfl (E.assign rfl) ?_
    refine R.done ?_
    refine X.keep [(2, _), (3, _), (4, _)] ⟨rfl, rfl, rfl, trivial⟩ ?_
    refine X.next ?_
    refine C.ret ?_
    refine X.ret3 rfl rfl rfl rfl ?_
    exact ⟨K4, b18, KLe.trans hK1 (KLe.trans hK3 hK4), rfl, ⟨l, _, ps, hc4, inferInstance, hps.mono (KLe.trans hK3 hK4)⟩, hs.drop⟩
/-- the verdict of the first k patterns -/
def verdK (L : Ens) (nm : List UInt8) : Nat → Int
  | 0 => 0
  | k + 1 => if matchB (L.getD k ([], 0)).1 nm then (L.getD k ([], 0)).2 else verdK L nm k
def verd (L : Ens) (nm : List UInt8) : Int := verdK L nm L.length
theorem llen_any {L : Ens} [hp : KLst K p L] (hs : Sat K w Hs) : Ret Tryz.prog 49 #[ptr p] w fun v w' => v = .int .i64 L.length ∧ Sat K w' Hs := by
  obtain ⟨s, v, ps, hk, hv, hps⟩ := hp.ex
  obtain ⟨ad, ca, rfl, hv1, hv2⟩ := hv.ex
  refine Ret.enter (n := 10) (args := [ptr p]) Tryz.func49 rfl rfl ?_
  refine C.keep [(0, _)] ⟨rfl, trivial⟩ ?_
  refine C.seq ?_
  refine C.region ?_
  refine R.ev rfl (E.assign rfl) ?_
  refine R.done ?_
  refine X.keep [(0, _)] ⟨rfl, trivial⟩ ?_
  refine X.next ?_
  refine C.seq ?_
  refine C.seq ?_
  refine C.region ?_
  refine R.ev rfl (E.move rfl) ?_
  refine R.ev rfl (E.eqlNilF rfl rfl Tryz.underlying67) ?_
  refine R.done ?_
  refine X.keep [(0, _), (4, _)] ⟨rfl, rfl, trivial⟩ ?_
  refine X.next ?_
  refine C.cfalse rfl ?_
  refine C.skip ?_
  refine X.next ?_
  refine C.seq ?_
  refine C.region ?_
  refine R.ev rfl (E.move rfl) ?_
  refine R.ev rfl (E.nilCheck rfl) ?_
  first | refine R.ev rfl (E.fieldAddr0 1 rfl Tryz.underlying96 rfl Tryz.sz94 rfl) ?_ | refine R.ev rfl (E.fieldAddrN 1 rfl Tryz.underlying96 rfl Tryz.sz94 rfl) ?_
  refine R.ev rfl (E.load1 rfl Tryz.underlying94 rfl (by first | exact hs.ldc | exact hs.ld rfl | exact hs.ld (by assumption) | exact by assumption | exact At.cellC (by assumption) | exact hs.ldK rfl)) ?_
  refine R.ev rfl (E.lenSl rfl Tryz.underlying94) ?_
  refine R.ev rfl (E.assign rfl) ?_
  refine R.done ?_
  refine X.keep [(2, _)] ⟨rfl, trivial⟩ ?_
  refine X.next ?_
  refine C.ret ?_
  refine X.ret1 rfl rfl ?_
  exact ⟨by rw [hps.1], hs⟩
theorem verdict_any {L : Ens} (nm : List UInt8) [hp : KLst K p L] (hs : Sat K w Hs) (hn : nm.length ≤ 1000000) (hl : L.length ≤ 64) : Ret Tryz.prog 23 #[ptr p, str nm] w fun v w' => v = .int .i64 (verd L nm) ∧ Sat K w' Hs := by
  have hp0 := hp
  obtain ⟨s, v, ps, hk, hv, hps⟩ := hp.ex
  obtain ⟨ad, ca, rfl, hv1, hv2⟩ := hv.ex
  have hv : KRow encEn 2 K (.slice ad ps.length ca) ps := hv
  have hpl := hps.1
  refine Ret.enter (n := 31) (args := [ptr p, str nm]) Tryz.func23 rfl rfl ?_
  refine C.keep [(0, _), (1, _)] ⟨rfl, rfl, trivial⟩ ?_
  refine C.seq ?_
  refine C.region ?_
  refine R.ev rfl (E.assign rfl) ?_
  refine R.done ?_
  refine X.keep [(0, _), (1, _)] ⟨rfl, rfl, trivial⟩ ?_
  refine X.next ?_
  refine C.seq ?_
  refine C.seq ?_
  refine C.region ?_
  refine R.ev rfl (E.move rfl) ?_
  refine R.call ⟨_, _, Tryz.func49, rfl, by kernel_rfl⟩ rfl rfl (llen_any (L := L) hs) ?_
  rintro _ w1 ⟨rfl, hs⟩
  refine R.ev rfl (E.sub rfl rfl (by omega) (by omega)) ?_
  refine R.ev rfl (E.assign rfl) ?_
  refine R.done ?_
  refine X.keep [(0, _), (1, _), (5, _)] ⟨rfl, rfl, rfl, trivial⟩ ?_
  refine X.next ?_
  refine C.block ?_
  refine C.loop (T := Nat) [(0, _), (1, _)] (fun k => [(5, .int .i64 ((k : Nat) - 1))]) (fun k w' => k ≤ L.length ∧ verd L nm = verdK L nm k ∧ Sat K w' Hs) (fun k => k) (L.length) ⟨rfl, rfl, rfl, trivial⟩ ⟨Nat.le_refl _, rfl, hs⟩ ?_
  rintro k w1 ⟨hk1, hvk, hs⟩
  refine C.keep [(0, _), (1, _), (5, _)] ⟨rfl, rfl, rfl, trivial⟩ ?_
  refine C.seq ?_
  refine C.seq ?_
  refine C.region ?_
  refine R.ev rfl (E.move rfl) ?_
  refine R.ev rfl (E.geq rfl rfl) ?_
  refine R.done ?_
  refine X.keep [(0, _), (1, _), (5, _), (10, _)] ⟨rfl, rfl, rfl, rfl, trivial⟩ ?_
  refine X.next ?_
  refine C.cdec rfl (fun h10 => ?_) (fun h10 => ?_)
  · obtain ⟨j, rfl⟩ : ∃ j, k = j + 1 := ⟨k - 1, by omega⟩
    obtain ⟨y, bk_y, of_y, hy, my, ly, rfl, Ay⟩ := hs.el (i := j) (ad := ad) (n := ps.length) (c := ca) (by omega)
    have ay := Ay _ hs
    obtain ⟨e, he, hpe, hye, hel⟩ := hps.2 j y hy
    have hgd : L.getD j ([], 0) = e := getD_of he
    refine C.skip ?_
    refine X.next ?_
    refine C.seq ?_
    refine C.block ?_
    refine C.seq ?_
    refine C.region ?_
    refine R.ev rfl (E.move rfl) ?_
    refine R.ev rfl (E.nilCheck rfl) ?_
    first | refine R.ev rfl (E.fieldAddr0 1 rfl Tryz.underlying96 rfl Tryz.sz94 rfl) ?_ | refine R.ev rfl (E.fieldAddrN 1 rfl Tryz.underlying96 rfl Tryz.sz94 rfl) ?_
    refine R.ev rfl (E.load1 rfl Tryz.underlying94 rfl (by first | exact hs.ldc | exact hs.ld rfl | exact hs.ld (by assumption) | exact by assumption | exact At.cellC (by assumption) | exact hs.ldK rfl)) ?_
    refine R.ev rfl (E.move rfl) ?_
    refine R.ev rfl (E.indexAddr (i := j) rfl rfl Tryz.underlying94 Tryz.sz100 (by omega) (by omega)) ?_
    first | refine R.ev rfl (E.fieldAddr0 0 rfl Tryz.underlying100 rfl Tryz.sz98 rfl) ?_ | refine R.ev rfl (E.fieldAddrN 0 rfl Tryz.underlying100 rfl Tryz.sz98 rfl) ?_
    refine R.ev rfl (E.load1 rfl Tryz.underlying98 rfl (by first | exact hs.ldc | exact hs.ld rfl | exact hs.ld (by assumption) | exact by assumption | exact At.cellC (by assumption) | exact hs.ldK rfl)) ?_
    refine R.ev rfl (E.move rfl) ?_
    refine R.call ⟨_, _, Tryz.func50, rfl, by kernel_rfl⟩ rfl rfl (match_any (es := e.1) nm hs (by omega) hn) ?_
    rintro _ w4 ⟨rfl, hs⟩
    have ay := Ay _ hs
    refine R.done ?_
    refine X.keep [(0, _), (1, _), (5, _), (22, _)] ⟨rfl, rfl, rfl, rfl, trivial⟩ ?_
    refine X.next ?_
    refine C.cbool rfl (fun h22 => ?_) (fun h22 => ?_)
    · refine C.seq ?_
      refine C.region ?_
      refine R.ev rfl (E.move rfl) ?_
      refine R.ev rfl (E.nilCheck rfl) ?_
      first | refine R.ev rfl (E.fieldAddr0 1 rfl Tryz.underlying96 rfl Tryz.sz94 rfl) ?_ | refine R.ev rfl (E.fieldAddrN 1 rfl Tryz.underlying96 rfl Tryz.sz94 rfl) ?_
      refine R.ev rfl (E.load1 rfl Tryz.underlying94 rfl (by first | exact hs.ldc | exact hs.ld rfl | exact hs.ld (by assumption) | exact by assumption | exact At.cellC (by assumption) | exact hs.ldK rfl)) ?_
      refine R.ev rfl (E.move rfl) ?_
      refine R.ev rfl (E.indexAddr (i := j) rfl rfl Tryz.underlying94 Tryz.sz100 (by omega) (by omega)) ?_
      first | refine R.ev rfl (E.fieldAddr0 1 rfl Tryz.underlying100 rfl Tryz.sz3 rfl) ?_ | refine R.ev rfl (E.fieldAddrN 1 rfl Tryz.underlying100 rfl Tryz.sz3 rfl) ?_
      refine R.ev rfl (E.load1 rfl Tryz.underlying3 rfl (by first | exact hs.ldc | exact hs.ld rfl | exact hs.ld (by assumption) | exact by assumption | exact At.cellC (by assumption) | exact hs.ldK rfl)) ?_
      refine R.ev rfl (E.assign rfl) ?_
      refine R.done ?_
      refine X.keep [(4, _)] ⟨rfl, trivial⟩ ?_
      refine X.next ?_
      refine C.ret ?_
      refine X.blockRet ?_
      refine X.thenRet ?_
      refine X.loopRet ?_
      refine X.blockRet ?_
      refine X.thenRet ?_
      refine X.ret1 rfl rfl ?_
      exact ⟨by rw [hvk, verdK, hgd, if_pos h22, hye], hs⟩
    · refine C.skip ?_
      refine X.blockNormal ?_
      refine X.next ?_
      refine C.region ?_
      refine R.ev rfl (E.move rfl) ?_
      refine R.ev rfl ((E.sub rfl rfl (by omega) (by omega)).isI (c := ((j : Nat) : Int) - 1) (by omega)) ?_
      refine R.ev rfl (E.assign rfl) ?_
      refine R.done ?_
      refine X.keep [(0, _), (1, _), (5, _)] ⟨rfl, rfl, rfl, trivial⟩ ?_
      exact X.again j ⟨rfl, rfl, rfl, trivial⟩ ⟨by omega, by rw [hvk, verdK, hgd, h22]; rfl, hs⟩ (by omega)
  · have hk0 : k = 0 := by omega
    refine C.exit ?_
    refine X.thenExit ?_
    refine X.loopExit ?_
    refine X.blockExit ?_
    refine X.next ?_
    refine C.seq ?_
    refine C.region ?_
    refine R.ev rfl (E.assign rfl) ?_
    refine R.done ?_
    refine X.keep [(4, _)] ⟨rfl, trivial⟩ ?_
    refine X.next ?_
    refine C.ret ?_
    refine X.ret1 rfl rfl ?_
    exact ⟨by rw [hvk, hk0]; rfl, hs⟩
def selL (L : Ens) : Bool → List (List UInt8) → Bool
  | a, [] => a
  | a, n :: ns => if verd L n = 1 then selL L true ns else if verd L n = 3 then false else selL L a ns
theorem selects_any {L : Ens} {v : Value} {N : List (List UInt8)} [hp : KLst K p L] [hr : KRow encS 1 K v N] (hs : Sat K w Hs) (hn : ∀ n ∈ N, n.length ≤ 1000000) (hl : L.length ≤ 64) (hN : N.length ≤ 1000000) : Ret Tryz.prog 38 #[ptr p, v] w fun v w' => v = .bool (selL L false N) ∧ Sat K w' Hs := by
  obtain ⟨ad, ca, rfl, hv1, hv2⟩ := hr.ex
  have hr : KRow encS 1 K (.slice ad N.length ca) N := hr
  refine Ret.enter (n := 23) (args := [ptr p, .slice ad N.length ca]) Tryz.func38 rfl rfl ?_
  refine C.keep [(0, _), (1, _)] ⟨rfl, rfl, trivial⟩ ?_
  refine C.seq ?_
  refine C.region ?_
  refine R.ev rfl (E.assign rfl) ?_
  refine R.done ?_
  refine X.keep [(0, _), (1, _)] ⟨rfl, rfl, trivial⟩ ?_
  refine X.next ?_
  refine C.seq ?_
  refine C.region ?_
  refine R.ev rfl (E.assign rfl) ?_
  refine R.done ?_
  refine X.keep [(0, _), (1, _), (5, _)] ⟨rfl, rfl, rfl, trivial⟩ ?_
  refine X.next ?_
  refine C.seq ?_
  refine C.seq ?_
  refine C.region ?_
  refine R.ev rfl (E.move rfl) ?_
  refine R.ev rfl (E.lenSl rfl Tryz.underlying30) ?_
  refine R.ev rfl (E.move rfl) ?_
  refine R.done ?_
  refine X.keep [(0, _), (5, _), (8, _), (9, _), (10, _)] ⟨rfl, rfl, rfl, rfl, rfl, trivial⟩ ?_
  refine X.next ?_
  refine C.block ?_
  refine C.loop (T := Nat × Bool) [(0, _), (8, _), (9, _)] (fun (k, a) => [(5, .bool a), (10, .int .i64 (k : Nat))]) (fun (k, a) w' => k ≤ N.length ∧ selL L false N = selL L a (N.drop k) ∧ Sat K w' Hs) (fun (k, _) => N.length - k) ((0, false)) ⟨rfl, rfl, rfl, rfl, rfl, trivial⟩ ⟨Nat.zero_le _, rfl, hs⟩ ?_
  rintro ⟨k, a⟩ w1 ⟨hk, hsel, hs⟩
  refine C.keep [(0, _), (5, _), (8, _), (9, _), (10, _)] ⟨rfl, rfl, rfl, rfl, rfl, trivial⟩ ?_
  refine C.seq ?_
  refine C.region ?_
  refine R.ev rfl (E.lss rfl rfl) ?_
  refine R.done ?_
  refine X.keep [(0, _), (5, _), (8, _), (9, _), (10, _), (11, _)] ⟨rfl, rfl, rfl, rfl, rfl, rfl, trivial⟩ ?_
  refine X.next ?_
  refine C.seq ?_
  refine C.cdec rfl (fun h11 => ?_) (fun h11 => ?_)
  · obtain ⟨y, bk_y, of_y, hy, my, ly, rfl, Ay⟩ := hs.el (i := k) (ad := ad) (n := N.length) (c := ca) (by omega)
    have ay := Ay _ hs
    obtain ⟨hy1, hy2⟩ := List.getElem?_eq_some_iff.1 hy
    rw [List.drop_eq_getElem_cons hy1, hy2, selL] at hsel
    refine C.skip ?_
    refine X.next ?_
    refine C.seq ?_
    refine C.block ?_
    refine C.seq ?_
    refine C.region ?_
    refine R.ev rfl (E.indexAddr rfl rfl Tryz.underlying30 Tryz.sz9 rfl (by first | omega | decide)) ?_
    refine R.ev rfl (E.load1 rfl Tryz.underlying9 rfl (ay 0 _ rfl)) ?_
    refine R.ev rfl (E.assign rfl) ?_
    refine R.done ?_
    refine X.keep [(0, _), (5, _), (7, _), (8, _), (9, _), (10, _)] ⟨rfl, rfl, rfl, rfl, rfl, rfl, trivial⟩ ?_
    refine X.next ?_
    refine C.seq ?_
    refine C.region ?_
    refine R.ev rfl (E.move rfl) ?_
    refine R.ev rfl (E.move rfl) ?_
    refine R.call ⟨_, _, Tryz.func23, rfl, by kernel_rfl⟩ rfl rfl (verdict_any y hs (hn y my) hl) ?_
    rintro _ w5 ⟨rfl, hs⟩
    refine R.done ?_
    refine X.keep [(0, _), (5, _), (8, _), (9, _), (10, _), (16, _)] ⟨rfl, rfl, rfl, rfl, rfl, rfl, trivial⟩ ?_
    refine X.next ?_
    refine C.block ?_
    refine C.seq ?_
    refine C.region ?_
    refine R.ev rfl (E.eql rfl rfl) ?_
    refine R.ev rfl (E.assign rfl) ?_
    refine R.done ?_
    refine X.keep [(0, _), (5, _), (8, _), (9, _), (10, _), (16, _), (17, _)] ⟨rfl, rfl, rfl, rfl, rfl, rfl, rfl, trivial⟩ ?_
    refine X.next ?_
    refine C.cdec rfl (fun h17 => ?_) (fun h17 => ?_)
    · refine C.region ?_
      refine R.ev rfl (E.assign rfl) ?_
      refine R.done ?_
      refine X.keep [(0, _), (5, _), (8, _), (9, _), (10, _)] ⟨rfl, rfl, rfl, rfl, rfl, trivial⟩ ?_
      refine X.blockNormal ?_
      refine X.blockNormal ?_
      refine X.next ?_
      refine C.region ?_
      refine R.ev rfl (E.add rfl rfl (by omega) (by omega)) ?_
      refine R.ev rfl (E.move rfl) ?_
      refine R.done ?_
      refine X.keep [(0, _), (5, _), (8, _), (9, _), (10, _)] ⟨rfl, rfl, rfl, rfl, rfl, trivial⟩ ?_
      first
        | exact X.again (k + 1, true) ⟨rfl, rfl, rfl, rfl, rfl, trivial⟩ ⟨by omega, by rw [hsel, if_pos h17], hs⟩ (by show _ - _ < _ - _; omega)
        | exact X.again (k + 1, a) ⟨rfl, rfl, rfl, rfl, rfl, trivial⟩ ⟨by omega, by rw [hsel, if_neg h17, if_neg h19], hs⟩ (by show _ - _ < _ - _; omega)
    · refine C.seq ?_
      refine C.region ?_
      refine R.ev rfl (E.eql rfl rfl) ?_
      refine R.ev rfl (E.assign rfl) ?_
      refine R.done ?_
      refine X.keep [(0, _), (5, _), (8, _), (9, _), (10, _), (19, _)] ⟨rfl, rfl, rfl, rfl, rfl, rfl, trivial⟩ ?_
      refine X.next ?_
      refine C.cdec rfl (fun h19 => ?_) (fun h19 => ?_)
      · refine C.seq ?_
        refine C.region ?_
        refine R.ev rfl (E.assign rfl) ?_
        refine R.done ?_
        refine X.keep [(4, _)] ⟨rfl, trivial⟩ ?_
        refine X.next ?_
        refine C.ret ?_
        refine X.blockRet ?_
        refine X.blockRet ?_
        refine X.thenRet ?_
        refine X.loopRet ?_
        refine X.blockRet ?_
        refine X.thenRet ?_
        refine X.ret1 rfl rfl ?_
        exact ⟨by rw [hsel, if_neg h17, if_pos h19], hs⟩
      · refine C.skip ?_
        refine X.blockNormal ?_
        refine X.blockNormal ?_
        refine X.next ?_
        refine C.region ?_
        refine R.ev rfl (E.add rfl rfl (by omega) (by omega)) ?_
        refine R.ev rfl (E.move rfl) ?_
        refine R.done ?_
        refine X.keep [(0, _), (5, _), (8, _), (9, _), (10, _)] ⟨rfl, rfl, rfl, rfl, rfl, trivial⟩ ?_
        first
          | exact X.again (k + 1, true) ⟨rfl, rfl, rfl, rfl, rfl, trivial⟩ ⟨by omega, by rw [hsel, if_pos h17], hs⟩ (by show _ - _ < _ - _; omega)
          | exact X.again (k + 1, a) ⟨rfl, rfl, rfl, rfl, rfl, trivial⟩ ⟨by omega, by rw [hsel, if_neg h17, if_neg h19], hs⟩ (by show _ - _ < _ - _; omega)
  · refine C.exit ?_
    refine X.thenExit ?_
    refine X.loopExit ?_
    refine X.blockExit ?_
    refine X.next ?_
    refine C.seq ?_
    refine C.region ?_
    refine R.ev rfl (E.move rfl) ?_
    refine R.ev rfl (E.assign rfl) ?_
    refine R.done ?_
    refine X.keep [(4, _)] ⟨rfl, trivial⟩ ?_
    refine X.next ?_
    refine C.ret ?_
    refine X.ret1 rfl rfl ?_
    exact ⟨by rw [hsel, List.drop_eq_nil_of_le (by omega)]; rfl, hs⟩
end Go.Proofs.YtifghjeapfijkaaGreatDoor
