/-
  package bulletinlaw36: an operation on a window and on the model, as plain functions on the size and the offers.
-/
import Derived.Test.YtajbclcpkgenbaaDoorWinK
namespace Go.Proofs.YtajbclcpkgenbaaDoor
open Go.Eng Go.RowKit

structure Op36 where
  kind : UInt8
  id : Vec 32
  n : Int
def encP (o : Op36) : List Value := ub o.kind :: (o.id.1.map ub ++ [.int .i64 o.n])
theorem encP_n (o : Op36) : (encP o)[33]? = some (.int .i64 o.n) := by simp [encP, o.id.2]
instance {o : Op36} : CellOf (encP o) 0 (ub o.kind) := ⟨rfl⟩
instance {o : Op36} : CellOf (encP o) 33 (.int .i64 o.n) := ⟨encP_n o⟩
instance {o : Op36} : PartOf (encP o) 1 32 (o.id.1.map ub) := PartOf.mk' (c1 := [ub o.kind]) rfl rfl (encV_len _)
instance : Enc encP 34 := ⟨fun o => by simp [encP, o.id.2], fun o u hu => by
  simp only [encP, List.mem_cons, List.mem_append, List.not_mem_nil, or_false] at hu
  rcases hu with rfl | hu | rfl
  · rfl
  · exact ub_all _ u hu
  · rfl⟩
def kd (o : Op36) : Nat := o.kind.toNat % 5
def pE (sz : Int) (L : List Off) (o : Op36) : Int := match kd o with | 0 => offerE sz L o.id o.n | 1 => answerE L o.id o.n | 2 => 0 | 3 => 0 | _ => resizeE o.n
def pL (sz : Int) (L : List Off) (o : Op36) : List Off := match kd o with | 0 => offerL sz L o.id o.n | 1 => answerL L o.id o.n | 2 => unfin L | 3 => filtL L | _ => L
def pS (sz : Int) (o : Op36) : Int := match kd o with | 0 => sz | 1 => sz | 2 => sz | 3 => sz | _ => resizeS sz o.n
def pR (L : List Off) (o : Op36) : List Res := match kd o with | 2 => (fin L).map resO | _ => []
def pD (L : List Off) (o : Op36) : List (Vec 32) := match kd o with | 3 => outsL L | _ => []
theorem kd_lt (o : Op36) : kd o < 5 := Nat.mod_lt _ (by decide)

variable {K : Kn} {Hs Rs : List Hl} {F : Hl} {w : World} {p : Nat} {sz : Int} {L : List Off}
theorem perform_any (o : Op36) (hs : Sat K w (F :: Rs)) [hw : Win p sz L F] [HasChg K] (hL : L.length ≤ 1000000) : Ret Tryd.prog 24 #[ptr p, .agg (encP o).toArray] w fun r w' =>
    ∃ K' v1 v2 F', r = .tuple #[.int .i64 (pE sz L o), v1, v2] ∧ KLe K K' ∧ KRow encR 33 K' v1 (pR L o) ∧ KRow encV 32 K' v2 (pD L o) ∧ Win p (pS sz o) (pL sz L o) F' ∧ Sat K' w' (F' :: Rs) := by
  have e1 := encP_n o
  have e2 := encV_len o.id
  have hk := kd_lt o
  have hko : ((o.kind.toNat : Int) % 5) = (kd o : Nat) := by unfold kd; omega
  refine Ret.enter (n := 38) (args := [ptr p, .agg (encP o).toArray]) Tryd.func24 rfl rfl ?_
  refine C.keep [(0, _), (1, _)] ⟨rfl, rfl, trivial⟩ ?_
  refine C.seq ?_
  refine C.region ?_
  refine R.sboxA hs rfl rfl ?_
  intro b3 w3 hs
  refine R.ev rfl (E.assign rfl) ?_
  refine R.ev rfl (E.assign rfl) ?_
  refine R.ev rfl (E.assign rfl) ?_
  refine R.done ?_
  refine X.keep [(0, _), (3, _)] ⟨rfl, rfl, trivial⟩ ?_
  refine X.next ?_
  refine C.seq ?_
  refine C.seq ?_
  refine C.region ?_
  first | refine R.ev rfl (E.fieldAddr0 0 rfl Tryd.underlying51 rfl Tryd.sz5 rfl) ?_ | refine R.ev rfl (E.fieldAddrN 0 rfl Tryd.underlying51 rfl Tryd.sz5 rfl) ?_
  refine R.ev rfl (E.load1 rfl Tryd.underlying5 rfl (by first | exact hs.ldc | exact hs.ld rfl | exact hs.ld (by assumption) | exact by assumption | exact At.cellC (by assumption))) ?_
  refine R.ev rfl ((E.rem rfl rfl (by decide) (by omega)).isI (c := (kd o : Nat)) hko) ?_
  refine R.done ?_
  refine X.keep [(0, _), (3, _), (9, _)] ⟨rfl, rfl, rfl, trivial⟩ ?_
  refine X.next ?_
  refine C.block ?_
  refine C.seq ?_
  refine C.region ?_
  refine R.ev rfl (E.eql rfl rfl) ?_
  refine R.ev rfl (E.assign rfl) ?_
  refine R.done ?_
  refine X.keep [(0, _), (3, _), (9, _), (10, _)] ⟨rfl, rfl, rfl, rfl, trivial⟩ ?_
  refine X.next ?_
  refine C.cdec rfl (fun h10 => ?_) (fun h10 => ?_)
  · refine C.seq ?_
    refine C.region ?_
    refine R.ev rfl (E.move rfl) ?_
    first | refine R.ev rfl (E.fieldAddr0 1 rfl Tryd.underlying51 rfl Tryd.sz37 rfl) ?_ | refine R.ev rfl (E.fieldAddrN 1 rfl Tryd.underlying51 rfl Tryd.sz37 rfl) ?_
    refine R.ev rfl (E.loadRowC rfl Tryd.underlying37 rfl Tryd.sz37 (by first | exact ⟨hs.ldA, by first | rfl | assumption | exact encV_len _ | exact Enc.len _ | exact len_ub (by assumption)⟩ | exact ⟨hs.ldP rfl, by first | rfl | assumption | exact encV_len _ | exact Enc.len _ | exact len_ub (by assumption)⟩ | exact ⟨hs.ldM rfl rfl, by first | rfl | assumption | exact encV_len _ | exact Enc.len _ | exact len_ub (by assumption)⟩ | exact ⟨hs.ldM (by assumption) (by first | rfl | assumption), by first | rfl | assumption | exact encV_len _ | exact Enc.len _ | exact len_ub (by assumption)⟩ | exact ⟨by assumption, by first | rfl | assumption | exact encV_len _ | exact Enc.len _ | exact len_ub (by assumption)⟩ | exact hs.ldp | exact At.partC (by assumption))) ?_
    first | refine R.ev rfl (E.fieldAddr0 33 rfl Tryd.underlying51 rfl Tryd.sz3 rfl) ?_ | refine R.ev rfl (E.fieldAddrN 33 rfl Tryd.underlying51 rfl Tryd.sz3 rfl) ?_
    refine R.ev rfl (E.load1 rfl Tryd.underlying3 rfl (by first | exact hs.ldc | exact hs.ld rfl | exact hs.ld (by assumption) | exact by assumption | exact At.cellC (by assumption))) ?_
    refine R.call ⟨_, _, Tryd.func16, rfl, by kernel_rfl⟩ rfl rfl (offer_any o.id o.n (hs.front (F := F)) hL) ?_
    rintro _ w3 ⟨rfl, F3, hw3, hs1⟩
    refine R.ev rfl (E.assign rfl) ?_
    refine R.ev rfl (E.assign rfl) ?_
    refine R.ev rfl (E.assign rfl) ?_
    refine R.done ?_
    refine X.keep [(4, _), (5, _), (6, _)] ⟨rfl, rfl, rfl, trivial⟩ ?_
    refine X.next ?_
    refine C.ret ?_
    refine X.blockRet ?_
    refine X.thenRet ?_
    refine X.ret3 rfl rfl rfl rfl ?_
    have hk0 : kd o = 0 := by omega
    exact ⟨K, .slice none 0 0, .slice none 0 0, F3, by simp only [pE, hk0], KLe.refl K, by simp only [pR, hk0]; exact KRow.nil, by simp only [pD, hk0]; exact KRow.nil, by simp only [pS, pL, hk0]; exact hw3, hs1.drop1⟩
  · refine C.seq ?_
    refine C.region ?_
    refine R.ev rfl (E.eql rfl rfl) ?_
    refine R.ev rfl (E.assign rfl) ?_
    refine R.done ?_
    refine X.keep [(0, _), (3, _), (9, _), (18, _)] ⟨rfl, rfl, rfl, rfl, trivial⟩ ?_
    refine X.next ?_
    refine C.cdec rfl (fun h18 => ?_) (fun h18 => ?_)
    · refine C.seq ?_
      refine C.region ?_
      refine R.ev rfl (E.move rfl) ?_
      first | refine R.ev rfl (E.fieldAddr0 1 rfl Tryd.underlying51 rfl Tryd.sz37 rfl) ?_ | refine R.ev rfl (E.fieldAddrN 1 rfl Tryd.underlying51 rfl Tryd.sz37 rfl) ?_
      refine R.ev rfl (E.loadRowC rfl Tryd.underlying37 rfl Tryd.sz37 (by first | exact ⟨hs.ldA, by first | rfl | assumption | exact encV_len _ | exact Enc.len _ | exact len_ub (by assumption)⟩ | exact ⟨hs.ldP rfl, by first | rfl | assumption | exact encV_len _ | exact Enc.len _ | exact len_ub (by assumption)⟩ | exact ⟨hs.ldM rfl rfl, by first | rfl | assumption | exact encV_len _ | exact Enc.len _ | exact len_ub (by assumption)⟩ | exact ⟨hs.ldM (by assumption) (by first | rfl | assumption), by first | rfl | assumption | exact encV_len _ | exact Enc.len _ | exact len_ub (by assumption)⟩ | exact ⟨by assumption, by first | rfl | assumption | exact encV_len _ | exact Enc.len _ | exact len_ub (by assumption)⟩ | exact hs.ldp | exact At.partC (by assumption))) ?_
      first | refine R.ev rfl (E.fieldAddr0 33 rfl Tryd.underlying51 rfl Tryd.sz3 rfl) ?_ | refine R.ev rfl (E.fieldAddrN 33 rfl Tryd.underlying51 rfl Tryd.sz3 rfl) ?_
      refine R.ev rfl (E.load1 rfl Tryd.underlying3 rfl (by first | exact hs.ldc | exact hs.ld rfl | exact hs.ld (by assumption) | exact by assumption | exact At.cellC (by assumption))) ?_
      refine R.call ⟨_, _, Tryd.func18, rfl, by kernel_rfl⟩ rfl rfl (answer_any o.id o.n (hs.front (F := F))) ?_
      rintro _ w3 ⟨rfl, F3, hw3, hs1⟩
      refine R.ev rfl (E.assign rfl) ?_
      refine R.ev rfl (E.assign rfl) ?_
      refine R.ev rfl (E.assign rfl) ?_
      refine R.done ?_
      refine X.keep [(4, _), (5, _), (6, _)] ⟨rfl, rfl, rfl, trivial⟩ ?_
      refine X.next ?_
      refine C.ret ?_
      refine X.blockRet ?_
      refine X.thenRet ?_
      refine X.ret3 rfl rfl rfl rfl ?_
      have hk0 : kd o = 1 := by omega
      exact ⟨K, .slice none 0 0, .slice none 0 0, F3, by simp only [pE, hk0], KLe.refl K, by simp only [pR, hk0]; exact KRow.nil, by simp only [pD, hk0]; exact KRow.nil, by simp only [pS, pL, hk0]; exact hw3, hs1.drop1⟩
    · refine C.seq ?_
      refine C.region ?_
      refine R.ev rfl (E.eql rfl rfl) ?_
      refine R.ev rfl (E.assign rfl) ?_
      refine R.done ?_
      refine X.keep [(0, _), (3, _), (9, _), (26, _)] ⟨rfl, rfl, rfl, rfl, trivial⟩ ?_
      refine X.next ?_
      refine C.cdec rfl (fun h26 => ?_) (fun h26 => ?_)
      · refine C.seq ?_
        refine C.region ?_
        refine R.ev rfl (E.move rfl) ?_
        refine R.call ⟨_, _, Tryd.func14, rfl, by kernel_rfl⟩ rfl rfl (settled_any (hs.front (F := F)) hL) ?_
        rintro v3 w3 ⟨F3, G3, r3, hw3, hs1⟩
        refine R.ev rfl (E.assign rfl) ?_
        refine R.ev rfl (E.assign rfl) ?_
        refine R.ev rfl (E.assign rfl) ?_
        refine R.done ?_
        refine X.keep [(4, _), (5, _), (6, _)] ⟨rfl, rfl, rfl, trivial⟩ ?_
        refine X.next ?_
        refine C.ret ?_
        refine X.blockRet ?_
        refine X.thenRet ?_
        refine X.ret3 rfl rfl rfl rfl ?_
        have hk0 : kd o = 2 := by omega
        obtain ⟨K1, hk1, r1, hs2⟩ := r3.freezeK hs1
        exact ⟨K1, v3, .slice none 0 0, F3, by simp only [pE, hk0], hk1, by simp only [pR, hk0]; exact r1, by simp only [pD, hk0]; exact KRow.nil, by simp only [pS, pL, hk0]; exact hw3, hs2.drop1⟩
      · refine C.seq ?_
        refine C.region ?_
        refine R.ev rfl (E.eql rfl rfl) ?_
        refine R.ev rfl (E.assign rfl) ?_
        refine R.done ?_
        refine X.keep [(0, _), (3, _), (30, _)] ⟨rfl, rfl, rfl, trivial⟩ ?_
        refine X.next ?_
        refine C.cdec rfl (fun h30 => ?_) (fun h30 => ?_)
        · refine C.seq ?_
          refine C.region ?_
          refine R.ev rfl (E.move rfl) ?_
          refine R.call ⟨_, _, Tryd.func26, rfl, by kernel_rfl⟩ rfl rfl (drop_any (hs.front (F := F)) hL) ?_
          rintro v3 w3 ⟨F3, G3, r3, hw3, hs1⟩
          refine R.ev rfl (E.assign rfl) ?_
          refine R.ev rfl (E.assign rfl) ?_
          refine R.ev rfl (E.assign rfl) ?_
          refine R.done ?_
          refine X.keep [(4, _), (5, _), (6, _)] ⟨rfl, rfl, rfl, trivial⟩ ?_
          refine X.next ?_
          refine C.ret ?_
          refine X.blockRet ?_
          refine X.thenRet ?_
          refine X.ret3 rfl rfl rfl rfl ?_
          have hk0 : kd o = 3 := by omega
          obtain ⟨K1, hk1, r1, hs2⟩ := r3.freezeK hs1
          exact ⟨K1, .slice none 0 0, v3, F3, by simp only [pE, hk0], hk1, by simp only [pR, hk0]; exact KRow.nil, by simp only [pD, hk0]; exact r1, by simp only [pS, pL, hk0]; exact hw3, hs2.drop1⟩
        · refine C.skip ?_
          refine X.blockNormal ?_
          refine X.next ?_
          refine C.seq ?_
          refine C.region ?_
          refine R.ev rfl (E.move rfl) ?_
          first | refine R.ev rfl (E.fieldAddr0 33 rfl Tryd.underlying51 rfl Tryd.sz3 rfl) ?_ | refine R.ev rfl (E.fieldAddrN 33 rfl Tryd.underlying51 rfl Tryd.sz3 rfl) ?_
          refine R.ev rfl (E.load1 rfl Tryd.underlying3 rfl (by first | exact hs.ldc | exact hs.ld rfl | exact hs.ld (by assumption) | exact by assumption | exact At.cellC (by assumption))) ?_
          refine R.call ⟨_, _, Tryd.func21, rfl, by kernel_rfl⟩ rfl rfl (resize_any o.n (hs.front (F := F))) ?_
          rintro _ w3 ⟨rfl, F3, hw3, hs1⟩
          refine R.ev rfl (E.assign rfl) ?_
          refine R.ev rfl (E.assign rfl) ?_
          refine R.ev rfl (E.assign rfl) ?_
          refine R.done ?_
          refine X.keep [(4, _), (5, _), (6, _)] ⟨rfl, rfl, rfl, trivial⟩ ?_
          refine X.next ?_
          refine C.ret ?_
          refine X.ret3 rfl rfl rfl rfl ?_
          have hk0 : kd o = 4 := by omega
          exact ⟨K, .slice none 0 0, .slice none 0 0, F3, by simp only [pE, hk0], KLe.refl K, by simp only [pR, hk0]; exact KRow.nil, by simp only [pD, hk0]; exact KRow.nil, by simp only [pS, pL, hk0]; exact hw3, hs1.drop1⟩
theorem possible_any (i j : Int) (w : World) : Ret Tryd.prog 34 #[.int .i64 i, .int .i64 j] w fun r w' => r = .bool (decide (i = 0 ∧ (j = 1 ∨ j = 3 ∨ j = 4 ∨ j = 5) ∨ i = 1 ∧ (j = 2 ∨ j = 4 ∨ j = 5))) ∧ w = w' := by
  refine Ret.enter (n := 39) (args := [.int .i64 i, .int .i64 j]) Tryd.func34 rfl rfl ?_
  refine C.keep [(0, _), (1, _)] ⟨rfl, rfl, trivial⟩ ?_
  refine C.seq ?_
  refine C.region ?_
  refine R.ev rfl (E.assign rfl) ?_
  refine R.done ?_
  refine X.keep [(0, _), (1, _)] ⟨rfl, rfl, trivial⟩ ?_
  refine X.next ?_
  refine C.seq ?_
  refine C.region ?_
  refine R.ev rfl (E.move rfl) ?_
  refine R.ev rfl (E.eql rfl rfl) ?_
  refine R.ev rfl (E.move rfl) ?_
  refine R.split 7 rfl (fun h7 => ?_) (fun h7 => ?_)
  · refine R.gyes rfl rfl ?_
    refine R.ev rfl (E.move rfl) ?_
    refine R.gyes rfl rfl ?_
    refine R.ev rfl (E.eql rfl rfl) ?_
    refine R.gyes rfl rfl ?_
    refine R.ev rfl (E.move rfl) ?_
    refine R.split 10 rfl (fun h10 => ?_) (fun h10 => ?_)
    · refine R.gskip rfl rfl rfl ?_
      refine R.gskip rfl rfl rfl ?_
      refine R.gyes rfl rfl ?_
      refine R.ev rfl (E.pickT rfl rfl) ?_
      refine R.gyes rfl rfl ?_
      refine R.ev rfl (E.move rfl) ?_
      refine R.gskip rfl rfl rfl ?_
      refine R.gskip rfl rfl rfl ?_
      refine R.gyes rfl rfl ?_
      refine R.ev rfl (E.pickT rfl rfl) ?_
      refine R.gyes rfl rfl ?_
      refine R.ev rfl (E.move rfl) ?_
      refine R.gskip rfl rfl rfl ?_
      refine R.gskip rfl rfl rfl ?_
      refine R.gyes rfl rfl ?_
      refine R.ev rfl (E.pickT rfl rfl) ?_
      refine R.ev rfl (E.pickT rfl rfl) ?_
      refine R.ev rfl (E.move rfl) ?_
      refine R.gskip rfl rfl rfl ?_
      refine R.gskip rfl rfl rfl ?_
      refine R.gskip rfl rfl rfl ?_
      refine R.gundef rfl rfl ?_
      refine R.gundef rfl rfl ?_
      refine R.gundef rfl rfl ?_
      refine R.gundef rfl rfl ?_
      refine R.gundef rfl rfl ?_
      refine R.gundef rfl rfl ?_
      refine R.gundef rfl rfl ?_
      refine R.gundef rfl rfl ?_
      refine R.gundef rfl rfl ?_
      refine R.gundef rfl rfl ?_
      refine R.gskip rfl rfl rfl ?_
      refine R.ev rfl (E.pickT rfl rfl) ?_
      refine R.ev rfl (E.assign rfl) ?_
      refine R.done ?_
      refine X.keep [(4, _)] ⟨rfl, trivial⟩ ?_
      refine X.next ?_
      refine C.ret ?_
      refine X.ret1 rfl rfl ?_
      exact ⟨by simp_all, rfl⟩
    · refine R.gyes rfl rfl ?_
      refine R.ev rfl (E.move rfl) ?_
      refine R.gyes rfl rfl ?_
      refine R.ev rfl (E.eql rfl rfl) ?_
      refine R.gyes rfl rfl ?_
      refine R.ev rfl (E.pickF rfl rfl) ?_
      refine R.gyes rfl rfl ?_
      refine R.ev rfl (E.move rfl) ?_
      refine R.split 14 rfl (fun h14 => ?_) (fun h14 => ?_)
      · refine R.gskip rfl rfl rfl ?_
        refine R.gskip rfl rfl rfl ?_
        refine R.gyes rfl rfl ?_
        refine R.ev rfl (E.pickT rfl rfl) ?_
        refine R.gyes rfl rfl ?_
        refine R.ev rfl (E.move rfl) ?_
        refine R.gskip rfl rfl rfl ?_
        refine R.gskip rfl rfl rfl ?_
        refine R.gyes rfl rfl ?_
        refine R.ev rfl (E.pickT rfl rfl) ?_
        refine R.ev rfl (E.pickT rfl rfl) ?_
        refine R.ev rfl (E.move rfl) ?_
        refine R.gskip rfl rfl rfl ?_
        refine R.gskip rfl rfl rfl ?_
        refine R.gskip rfl rfl rfl ?_
        refine R.gundef rfl rfl ?_
        refine R.gundef rfl rfl ?_
        refine R.gundef rfl rfl ?_
        refine R.gundef rfl rfl ?_
        refine R.gundef rfl rfl ?_
        refine R.gundef rfl rfl ?_
        refine R.gundef rfl rfl ?_
        refine R.gundef rfl rfl ?_
        refine R.gundef rfl rfl ?_
        refine R.gundef rfl rfl ?_
        refine R.gskip rfl rfl rfl ?_
        refine R.ev rfl (E.pickT rfl rfl) ?_
        refine R.ev rfl (E.assign rfl) ?_
        refine R.done ?_
        refine X.keep [(4, _)] ⟨rfl, trivial⟩ ?_
        refine X.next ?_
        refine C.ret ?_
        refine X.ret1 rfl rfl ?_
        exact ⟨by simp_all, rfl⟩
      · refine R.gyes rfl rfl ?_
        refine R.ev rfl (E.move rfl) ?_
        refine R.gyes rfl rfl ?_
        refine R.ev rfl (E.eql rfl rfl) ?_
        refine R.gyes rfl rfl ?_
        refine R.ev rfl (E.pickF rfl rfl) ?_
        refine R.gyes rfl rfl ?_
        refine R.ev rfl (E.move rfl) ?_
        refine R.split 18 rfl (fun h18 => ?_) (fun h18 => ?_)
        · refine R.gskip rfl rfl rfl ?_
          refine R.gskip rfl rfl rfl ?_
          refine R.gyes rfl rfl ?_
          refine R.ev rfl (E.pickT rfl rfl) ?_
          refine R.ev rfl (E.pickT rfl rfl) ?_
          refine R.ev rfl (E.move rfl) ?_
          refine R.gskip rfl rfl rfl ?_
          refine R.gskip rfl rfl rfl ?_
          refine R.gskip rfl rfl rfl ?_
          refine R.gundef rfl rfl ?_
          refine R.gundef rfl rfl ?_
          refine R.gundef rfl rfl ?_
          refine R.gundef rfl rfl ?_
          refine R.gundef rfl rfl ?_
          refine R.gundef rfl rfl ?_
          refine R.gundef rfl rfl ?_
          refine R.gundef rfl rfl ?_
          refine R.gundef rfl rfl ?_
          refine R.gundef rfl rfl ?_
          refine R.gskip rfl rfl rfl ?_
          refine R.ev rfl (E.pickT rfl rfl) ?_
          refine R.ev rfl (E.assign rfl) ?_
          refine R.done ?_
          refine X.keep [(4, _)] ⟨rfl, trivial⟩ ?_
          refine X.next ?_
          refine C.ret ?_
          refine X.ret1 rfl rfl ?_
          exact ⟨by simp_all, rfl⟩
        · refine R.gyes rfl rfl ?_
          refine R.ev rfl (E.move rfl) ?_
          refine R.gyes rfl rfl ?_
          refine R.ev rfl (E.eql rfl rfl) ?_
          refine R.gyes rfl rfl ?_
          refine R.ev rfl (E.pickF rfl rfl) ?_
          refine R.ev rfl (E.pickT rfl rfl) ?_
          refine R.ev rfl (E.move rfl) ?_
          refine R.split 23 rfl (fun h23 => ?_) (fun h23 => ?_)
          · refine R.gskip rfl rfl rfl ?_
            refine R.gskip rfl rfl rfl ?_
            refine R.gskip rfl rfl rfl ?_
            refine R.gundef rfl rfl ?_
            refine R.gundef rfl rfl ?_
            refine R.gundef rfl rfl ?_
            refine R.gundef rfl rfl ?_
            refine R.gundef rfl rfl ?_
            refine R.gundef rfl rfl ?_
            refine R.gundef rfl rfl ?_
            refine R.gundef rfl rfl ?_
            refine R.gundef rfl rfl ?_
            refine R.gundef rfl rfl ?_
            refine R.gskip rfl rfl rfl ?_
            refine R.ev rfl (E.pickT rfl rfl) ?_
            refine R.ev rfl (E.assign rfl) ?_
            refine R.done ?_
            refine X.keep [(4, _)] ⟨rfl, trivial⟩ ?_
            refine X.next ?_
            refine C.ret ?_
            refine X.ret1 rfl rfl ?_
            exact ⟨by simp_all, rfl⟩
          · refine R.gyes rfl rfl ?_
            refine R.ev rfl (E.move rfl) ?_
            refine R.gyes rfl rfl ?_
            refine R.ev rfl (E.eql rfl rfl) ?_
            refine R.gyes rfl rfl ?_
            refine R.ev rfl (E.move rfl) ?_
            refine R.split 26 rfl (fun h26 => ?_) (fun h26 => ?_)
            · refine R.gyes rfl rfl ?_
              refine R.ev rfl (E.move rfl) ?_
              refine R.gyes rfl rfl ?_
              refine R.ev rfl (E.eql rfl rfl) ?_
              refine R.gyes rfl rfl ?_
              refine R.ev rfl (E.move rfl) ?_
              refine R.split 29 rfl (fun h29 => ?_) (fun h29 => ?_)
              · refine R.gskip rfl rfl rfl ?_
                refine R.gskip rfl rfl rfl ?_
                refine R.gyes rfl rfl ?_
                refine R.ev rfl (E.pickT rfl rfl) ?_
                refine R.gyes rfl rfl ?_
                refine R.ev rfl (E.move rfl) ?_
                refine R.gskip rfl rfl rfl ?_
                refine R.gskip rfl rfl rfl ?_
                refine R.gyes rfl rfl ?_
                refine R.ev rfl (E.pickT rfl rfl) ?_
                refine R.gyes rfl rfl ?_
                refine R.ev rfl (E.pickT rfl rfl) ?_
                refine R.ev rfl (E.pickF rfl rfl) ?_
                refine R.ev rfl (E.assign rfl) ?_
                refine R.done ?_
                refine X.keep [(4, _)] ⟨rfl, trivial⟩ ?_
                refine X.next ?_
                refine C.ret ?_
                refine X.ret1 rfl rfl ?_
                exact ⟨by simp_all, rfl⟩
              · refine R.gyes rfl rfl ?_
                refine R.ev rfl (E.move rfl) ?_
                refine R.gyes rfl rfl ?_
                refine R.ev rfl (E.eql rfl rfl) ?_
                refine R.gyes rfl rfl ?_
                refine R.ev rfl (E.pickF rfl rfl) ?_
                refine R.gyes rfl rfl ?_
                refine R.ev rfl (E.move rfl) ?_
                refine R.split 33 rfl (fun h33 => ?_) (fun h33 => ?_)
                · refine R.gskip rfl rfl rfl ?_
                  refine R.gskip rfl rfl rfl ?_
                  refine R.gyes rfl rfl ?_
                  refine R.ev rfl (E.pickT rfl rfl) ?_
                  refine R.gyes rfl rfl ?_
                  refine R.ev rfl (E.pickT rfl rfl) ?_
                  refine R.ev rfl (E.pickF rfl rfl) ?_
                  refine R.ev rfl (E.assign rfl) ?_
                  refine R.done ?_
                  refine X.keep [(4, _)] ⟨rfl, trivial⟩ ?_
                  refine X.next ?_
                  refine C.ret ?_
                  refine X.ret1 rfl rfl ?_
                  exact ⟨by simp_all, rfl⟩
                · refine R.gyes rfl rfl ?_
                  refine R.ev rfl (E.move rfl) ?_
                  refine R.gyes rfl rfl ?_
                  refine R.ev rfl (E.eql rfl rfl) ?_
                  refine R.gyes rfl rfl ?_
                  refine R.ev rfl (E.pickF rfl rfl) ?_
                  refine R.gyes rfl rfl ?_
                  refine R.ev rfl (E.pickT rfl rfl) ?_
                  refine R.ev rfl (E.pickF rfl rfl) ?_
                  refine R.ev rfl (E.assign rfl) ?_
                  refine R.done ?_
                  refine X.keep [(4, _)] ⟨rfl, trivial⟩ ?_
                  refine X.next ?_
                  refine C.ret ?_
                  refine X.ret1 rfl rfl ?_
                  exact ⟨by simp_all, rfl⟩
            · refine R.gskip rfl rfl rfl ?_
              refine R.gskip rfl rfl rfl ?_
              refine R.gskip rfl rfl rfl ?_
              refine R.gundef rfl rfl ?_
              refine R.gundef rfl rfl ?_
              refine R.gskip rfl rfl rfl ?_
              refine R.gskip rfl rfl rfl ?_
              refine R.gundef rfl rfl ?_
              refine R.gundef rfl rfl ?_
              refine R.gskip rfl rfl rfl ?_
              refine R.gyes rfl rfl ?_
              refine R.ev rfl (E.pickF rfl rfl) ?_
              refine R.ev rfl (E.pickF rfl rfl) ?_
              refine R.ev rfl (E.assign rfl) ?_
              refine R.done ?_
              refine X.keep [(4, _)] ⟨rfl, trivial⟩ ?_
              refine X.next ?_
              refine C.ret ?_
              refine X.ret1 rfl rfl ?_
              exact ⟨by simp_all, rfl⟩
  · refine R.gskip rfl rfl rfl ?_
    refine R.gskip rfl rfl rfl ?_
    refine R.gskip rfl rfl rfl ?_
    refine R.gundef rfl rfl ?_
    refine R.gundef rfl rfl ?_
    refine R.gskip rfl rfl rfl ?_
    refine R.gskip rfl rfl rfl ?_
    refine R.gundef rfl rfl ?_
    refine R.gundef rfl rfl ?_
    refine R.gskip rfl rfl rfl ?_
    refine R.gskip rfl rfl rfl ?_
    refine R.gundef rfl rfl ?_
    refine R.gundef rfl rfl ?_
    refine R.gskip rfl rfl rfl ?_
    refine R.ev rfl (E.pickF rfl rfl) ?_
    refine R.ev rfl (E.move rfl) ?_
    refine R.gyes rfl rfl ?_
    refine R.ev rfl (E.move rfl) ?_
    refine R.gyes rfl rfl ?_
    refine R.ev rfl (E.eql rfl rfl) ?_
    refine R.gyes rfl rfl ?_
    refine R.ev rfl (E.move rfl) ?_
    refine R.split 26 rfl (fun h26 => ?_) (fun h26 => ?_)
    · refine R.gyes rfl rfl ?_
      refine R.ev rfl (E.move rfl) ?_
      refine R.gyes rfl rfl ?_
      refine R.ev rfl (E.eql rfl rfl) ?_
      refine R.gyes rfl rfl ?_
      refine R.ev rfl (E.move rfl) ?_
      refine R.split 29 rfl (fun h29 => ?_) (fun h29 => ?_)
      · refine R.gskip rfl rfl rfl ?_
        refine R.gskip rfl rfl rfl ?_
        refine R.gyes rfl rfl ?_
        refine R.ev rfl (E.pickT rfl rfl) ?_
        refine R.gyes rfl rfl ?_
        refine R.ev rfl (E.move rfl) ?_
        refine R.gskip rfl rfl rfl ?_
        refine R.gskip rfl rfl rfl ?_
        refine R.gyes rfl rfl ?_
        refine R.ev rfl (E.pickT rfl rfl) ?_
        refine R.gyes rfl rfl ?_
        refine R.ev rfl (E.pickT rfl rfl) ?_
        refine R.ev rfl (E.pickF rfl rfl) ?_
        refine R.ev rfl (E.assign rfl) ?_
        refine R.done ?_
        refine X.keep [(4, _)] ⟨rfl, trivial⟩ ?_
        refine X.next ?_
        refine C.ret ?_
        refine X.ret1 rfl rfl ?_
        exact ⟨by simp_all, rfl⟩
      · refine R.gyes rfl rfl ?_
        refine R.ev rfl (E.move rfl) ?_
        refine R.gyes rfl rfl ?_
        refine R.ev rfl (E.eql rfl rfl) ?_
        refine R.gyes rfl rfl ?_
        refine R.ev rfl (E.pickF rfl rfl) ?_
        refine R.gyes rfl rfl ?_
        refine R.ev rfl (E.move rfl) ?_
        refine R.split 33 rfl (fun h33 => ?_) (fun h33 => ?_)
        · refine R.gskip rfl rfl rfl ?_
          refine R.gskip rfl rfl rfl ?_
          refine R.gyes rfl rfl ?_
          refine R.ev rfl (E.pickT rfl rfl) ?_
          refine R.gyes rfl rfl ?_
          refine R.ev rfl (E.pickT rfl rfl) ?_
          refine R.ev rfl (E.pickF rfl rfl) ?_
          refine R.ev rfl (E.assign rfl) ?_
          refine R.done ?_
          refine X.keep [(4, _)] ⟨rfl, trivial⟩ ?_
          refine X.next ?_
          refine C.ret ?_
          refine X.ret1 rfl rfl ?_
          exact ⟨by simp_all, rfl⟩
        · refine R.gyes rfl rfl ?_
          refine R.ev rfl (E.move rfl) ?_
          refine R.gyes rfl rfl ?_
          refine R.ev rfl (E.eql rfl rfl) ?_
          refine R.gyes rfl rfl ?_
          refine R.ev rfl (E.pickF rfl rfl) ?_
          refine R.gyes rfl rfl ?_
          refine R.ev rfl (E.pickT rfl rfl) ?_
          refine R.ev rfl (E.pickF rfl rfl) ?_
          refine R.ev rfl (E.assign rfl) ?_
          refine R.done ?_
          refine X.keep [(4, _)] ⟨rfl, trivial⟩ ?_
          refine X.next ?_
          refine C.ret ?_
          refine X.ret1 rfl rfl ?_
          exact ⟨by simp_all, rfl⟩
    · refine R.gskip rfl rfl rfl ?_
      refine R.gskip rfl rfl rfl ?_
      refine R.gskip rfl rfl rfl ?_
      refine R.gundef rfl rfl ?_
      refine R.gundef rfl rfl ?_
      refine R.gskip rfl rfl rfl ?_
      refine R.gskip rfl rfl rfl ?_
      refine R.gundef rfl rfl ?_
      refine R.gundef rfl rfl ?_
      refine R.gskip rfl rfl rfl ?_
      refine R.gyes rfl rfl ?_
      refine R.ev rfl (E.pickF rfl rfl) ?_
      refine R.ev rfl (E.pickF rfl rfl) ?_
      refine R.ev rfl (E.assign rfl) ?_
      refine R.done ?_
      refine X.keep [(4, _)] ⟨rfl, trivial⟩ ?_
      refine X.next ?_
      refine C.ret ?_
      refine X.ret1 rfl rfl ?_
      exact ⟨by simp_all, rfl⟩
theorem possible_may (i : Fin 6) (n : Int) (h1 : ¬ (n < 1 ∨ 5 < n)) : decide ((i.1 : Int) = 0 ∧ (n = 1 ∨ n = 3 ∨ n = 4 ∨ n = 5) ∨ (i.1 : Int) = 1 ∧ (n = 2 ∨ n = 4 ∨ n = 5)) = may i.1 n.toNat := by
  have hn : n = 1 ∨ n = 2 ∨ n = 3 ∨ n = 4 ∨ n = 5 := by omega
  rcases hn with rfl | rfl | rfl | rfl | rfl <;> revert i <;> decide
theorem mfind_any {v : Value} (a : Vec 32) (hs : Sat K w Hs) [hr : KRow encO 34 K v L] (hL : L.length ≤ 1000000) : Ret Tryd.prog 33 #[.agg #[.int .i64 sz, v], idV a.1] w fun r w' => r = .int .i64 (idxP (isId a) L) ∧ Sat K w' Hs := by
  obtain ⟨ad, cap, rfl, hsl, hc⟩ := hr.ex
  have e1 := encV_len a
  refine Ret.enter (n := 22) (args := [.agg #[.int .i64 sz, .slice ad L.length cap], idV a.1]) Tryd.func33 rfl rfl ?_
  refine C.keep [(0, _), (1, _)] ⟨rfl, rfl, trivial⟩ ?_
  refine C.seq ?_
  refine C.region ?_
  refine R.sboxA hs rfl rfl ?_
  intro b2 w2 hs
  refine R.sboxA hs rfl rfl ?_
  intro b3 w3 hs
  refine R.ev rfl (E.assign rfl) ?_
  refine R.done ?_
  refine X.keep [(2, _), (3, _)] ⟨rfl, rfl, trivial⟩ ?_
  refine X.next ?_
  refine C.seq ?_
  refine C.seq ?_
  refine C.region ?_
  refine R.ev rfl (E.assign rfl) ?_
  refine R.done ?_
  refine X.keep [(2, _), (3, _), (5, _)] ⟨rfl, rfl, rfl, trivial⟩ ?_
  refine X.next ?_
  refine C.block ?_
  refine C.loop  [(2, _), (3, _)] (fun k => [(5, .int .i64 (k : Nat))]) (fun k w' => k ≤ L.length ∧ Sat K w' (row b3 37 (a.1.map ub) :: row b2 58 [.int .i64 sz, .slice ad L.length cap] :: Hs) ∧ ∀ j, j < k → ∀ y, L[j]? = some y → isId a y = false) (fun k => L.length - k) (0) ⟨rfl, rfl, rfl, trivial⟩ ⟨Nat.zero_le _, hs, fun j h => by omega⟩ ?_
  rintro k w1 ⟨hk, hs, hno⟩
  refine C.keep [(2, _), (3, _), (5, _)] ⟨rfl, rfl, rfl, trivial⟩ ?_
  refine C.seq ?_
  refine C.seq ?_
  refine C.region ?_
  refine R.ev rfl (E.move rfl) ?_
  first | refine R.ev rfl (E.fieldAddr0 1 rfl Tryd.underlying58 rfl Tryd.sz56 rfl) ?_ | refine R.ev rfl (E.fieldAddrN 1 rfl Tryd.underlying58 rfl Tryd.sz56 rfl) ?_
  refine R.ev rfl (E.load1 rfl Tryd.underlying56 rfl (by first | exact hs.ldc | exact hs.ld rfl | exact hs.ld (by assumption) | exact by assumption | exact At.cellC (by assumption))) ?_
  refine R.ev rfl (E.lenSl rfl Tryd.underlying56) ?_
  refine R.ev rfl (E.lss rfl rfl) ?_
  refine R.done ?_
  refine X.keep [(2, _), (3, _), (5, _), (10, _)] ⟨rfl, rfl, rfl, rfl, trivial⟩ ?_
  refine X.next ?_
  refine C.cdec rfl (fun h10 => ?_) (fun h10 => ?_)
  · obtain ⟨y, bk_y, of_y, hy, my, ly, rfl, Ay⟩ := hs.el (i := k) (ad := ad) (n := L.length) (c := cap) (by omega)
    have ay := Ay _ hs
    have e2 := encV_len y.id
    refine C.skip ?_
    refine X.next ?_
    refine C.seq ?_
    refine C.block ?_
    refine C.seq ?_
    refine C.drawn (SatS hs) ([1, 5, 6], [0, 2, 3, 4, 7]) (by kernel_rfl) ?_
    have hs := hs.drew
    first | refine D.evP 0 rfl (by kernel_rfl) rfl (fun _ => hs.to) (fun _ => E.fieldAddr0 1 rfl Tryd.underlying58 rfl Tryd.sz56 rfl) ?_ | refine D.evP 0 rfl (by kernel_rfl) rfl (fun _ => hs.to) (fun _ => E.fieldAddrN 1 rfl Tryd.underlying58 rfl Tryd.sz56 rfl) ?_
    refine D.evP 2 rfl (by kernel_rfl) rfl (fun _ => hs.to) (fun _ => E.move rfl) ?_
    refine D.ev 1 rfl (by kernel_rfl) rfl hs.to (fun _ hS => E.load1 rfl Tryd.underlying56 rfl (by first | exact hS.ldc | exact hS.ld rfl | exact hS.ld (by assumption) | exact by assumption | exact At.cellC (by assumption) | exact At.cellC ((by assumption : ∀ w', Sat _ w' _ → At w' _ _ _) _ hS) | exact (by assumption : ∀ w', Sat _ w' _ → World.cell? w' _ = some _) _ hS)) ?_
    refine D.evP 3 rfl (by kernel_rfl) rfl (fun _ => hs.to) (fun _ => E.indexAddr rfl rfl Tryd.underlying56 Tryd.sz73 rfl (by first | omega | decide)) ?_
    first | refine D.evP 4 rfl (by kernel_rfl) rfl (fun _ => hs.to) (fun _ => E.fieldAddr0 0 rfl Tryd.underlying73 rfl Tryd.sz37 rfl) ?_ | refine D.evP 4 rfl (by kernel_rfl) rfl (fun _ => hs.to) (fun _ => E.fieldAddrN 0 rfl Tryd.underlying73 rfl Tryd.sz37 rfl) ?_
    refine D.ev 5 rfl (by kernel_rfl) rfl hs.to (fun _ hS => E.loadRow (cs := y.id.1.map ub) rfl Tryd.underlying37 rfl Tryd.sz37 (Ay _ hS).app.1 e2) ?_
    refine D.ev 6 rfl (by kernel_rfl) rfl hs.to (fun _ hS => E.loadRowC rfl Tryd.underlying37 rfl Tryd.sz37 (by first | exact ⟨hS.ldA, by first | rfl | assumption | exact encV_len _ | exact Enc.len _ | exact len_ub (by assumption)⟩ | exact ⟨hS.ldP rfl, by first | rfl | assumption | exact encV_len _ | exact Enc.len _ | exact len_ub (by assumption)⟩ | exact ⟨hS.ldM rfl rfl, by first | rfl | assumption | exact encV_len _ | exact Enc.len _ | exact len_ub (by assumption)⟩ | exact ⟨hS.ldM (by assumption) (by first | rfl | assumption), by first | rfl | assumption | exact encV_len _ | exact Enc.len _ | exact len_ub (by assumption)⟩ | exact ⟨by assumption, by first | rfl | assumption | exact encV_len _ | exact Enc.len _ | exact len_ub (by assumption)⟩ | exact ⟨(by assumption : ∀ w', Sat _ w' _ → At w' _ _ _) _ hS, by first | rfl | assumption | exact encV_len _ | exact Enc.len _ | exact len_ub (by assumption)⟩ | exact hS.ldp | exact At.partC (by assumption) | exact At.partC ((by assumption : ∀ w', Sat _ w' _ → At w' _ _ _) _ hS))) ?_
    first | refine D.evP 7 rfl (by kernel_rfl) rfl (fun _ => hs.to) (fun _ => E.eqV 10 rfl rfl Tryd.lv37 rfl Tryd.underlying37 rfl Tryd.gd37) ?_ | refine D.evP 7 rfl (by kernel_rfl) rfl (fun _ => hs.to) (fun _ => E.eqId 10 32 rfl rfl Tryd.lv37 rfl Tryd.underlying37 rfl Tryd.gd37 (by assumption) (by assumption)) ?_
    refine D.done rfl (by kernel_rfl) ?_
    refine X.keep [(2, _), (3, _), (5, _), (20, _)] ⟨rfl, rfl, rfl, rfl, trivial⟩ ?_
    refine X.next ?_
    refine C.cbool rfl (fun h20 => ?_) (fun h20 => ?_)
    · refine C.seq ?_
      refine C.region ?_
      refine R.ev rfl (E.move rfl) ?_
      refine R.ev rfl (E.assign rfl) ?_
      refine R.done ?_
      refine X.keep [(4, _)] ⟨rfl, trivial⟩ ?_
      refine X.next ?_
      refine C.ret ?_
      refine X.blockRet ?_
      refine X.thenRet ?_
      refine X.loopRet ?_
      refine X.blockRet ?_
      refine X.thenRet ?_
      refine X.ret1 rfl rfl ?_
      exact ⟨by rw [idxP_some (p := isId a) hy h20 hno], hs.to⟩
    · refine C.skip ?_
      refine X.blockNormal ?_
      refine X.next ?_
      refine C.region ?_
      refine R.ev rfl (E.move rfl) ?_
      refine R.ev rfl (E.add rfl rfl (by omega) (by omega)) ?_
      refine R.ev rfl (E.assign rfl) ?_
      refine R.done ?_
      refine X.keep [(2, _), (3, _), (5, _)] ⟨rfl, rfl, rfl, trivial⟩ ?_
      exact X.again (k + 1) ⟨rfl, rfl, rfl, trivial⟩ ⟨by omega, hs.to, idxP_step (p := isId a) hy h20 hno⟩ (by omega)
  · refine C.exit ?_
    refine X.thenExit ?_
    refine X.loopExit ?_
    refine X.blockExit ?_
    refine X.next ?_
    refine C.seq ?_
    refine C.region ?_
    refine R.ev rfl (E.assign rfl) ?_
    refine R.done ?_
    refine X.keep [(4, _)] ⟨rfl, trivial⟩ ?_
    refine X.next ?_
    refine C.ret ?_
    refine X.ret1 rfl rfl ?_
    exact ⟨by rw [idxP_none (p := isId a) hno (by omega)], hs.to⟩
theorem mouts_any {v : Value} (hs : Sat K w Hs) [hr : KRow encO 34 K v L] (hL : L.length ≤ 1000000) : Ret Tryd.prog 28 #[.agg #[.int .i64 sz, v]] w fun r w' => ∃ F', RowL 37 encV 32 r (outsL L) F' ∧ Sat K w' (F' :: Hs) := by
  obtain ⟨ad, cap, rfl, hsl, hc⟩ := hr.ex
  refine Ret.enter (n := 29) (args := [.agg #[.int .i64 sz, .slice ad L.length cap]]) Tryd.func28 rfl rfl ?_
  refine C.keep [(0, _)] ⟨rfl, trivial⟩ ?_
  refine C.seq ?_
  refine C.region ?_
  refine R.sboxA hs rfl rfl ?_
  intro b1 w1 hs
  refine R.ev rfl (E.assign rfl) ?_
  refine R.done ?_
  refine X.keep [(1, _)] ⟨rfl, trivial⟩ ?_
  refine X.next ?_
  refine C.seq ?_
  refine C.region ?_
  refine R.ev rfl (E.assign rfl) ?_
  refine R.done ?_
  refine X.keep [(1, _), (3, _)] ⟨rfl, rfl, trivial⟩ ?_
  refine X.next ?_
  refine C.seq ?_
  refine C.seq ?_
  refine C.region ?_
  refine R.ev rfl (E.assign rfl) ?_
  refine R.done ?_
  refine X.keep [(1, _), (3, _), (4, _)] ⟨rfl, rfl, rfl, trivial⟩ ?_
  refine X.next ?_
  refine C.block ?_
  refine C.loop (T := Nat × Value × Hl) [(1, _)] (fun (k, v, _) => [(3, v), (4, .int .i64 (k : Nat))]) (fun (k, v, F') w' => k ≤ L.length ∧ RowL 37 encV 32 v (outsL (L.take k)) F' ∧ Sat K w' (F' :: row b1 58 [.int .i64 sz, .slice ad L.length cap] :: Hs)) (fun (k, _) => L.length - k) ((0, .slice none 0 0, [])) ⟨rfl, rfl, rfl, trivial⟩ ⟨by omega, RowL.nil _ _ _, hs.nil⟩ ?_
  rintro ⟨k, v, F'⟩ w1 ⟨hk, r1, hs⟩
  have hlen : (outsL (L.take k)).length ≤ 1000000 := by rw [outsL_len]; have := cnt_le (L.take k); simp at this; omega
  refine C.keep [(1, _), (3, _), (4, _)] ⟨rfl, rfl, rfl, trivial⟩ ?_
  refine C.seq ?_
  refine C.seq ?_
  refine C.region ?_
  refine R.ev rfl (E.move rfl) ?_
  first | refine R.ev rfl (E.fieldAddr0 1 rfl Tryd.underlying58 rfl Tryd.sz56 rfl) ?_ | refine R.ev rfl (E.fieldAddrN 1 rfl Tryd.underlying58 rfl Tryd.sz56 rfl) ?_
  refine R.ev rfl (E.load1 rfl Tryd.underlying56 rfl (by first | exact hs.ldc | exact hs.ld rfl | exact hs.ld (by assumption) | exact by assumption | exact At.cellC (by assumption))) ?_
  refine R.ev rfl (E.lenSl rfl Tryd.underlying56) ?_
  refine R.ev rfl (E.lss rfl rfl) ?_
  refine R.done ?_
  refine X.keep [(1, _), (3, _), (4, _), (9, _)] ⟨rfl, rfl, rfl, rfl, trivial⟩ ?_
  refine X.next ?_
  refine C.cdec rfl (fun h9 => ?_) (fun h9 => ?_)
  · obtain ⟨y, bk_y, of_y, hy, my, ly, rfl, Ay⟩ := hs.el (i := k) (ad := ad) (n := L.length) (c := cap) (by omega)
    have ay := Ay _ hs
    have e2 := encV_len y.id
    have a33 := Ay _ hs 33 _ (encO_out y)
    have a0 := (Ay _ hs).app.1
    refine C.skip ?_
    refine X.next ?_
    refine C.seq ?_
    refine C.block ?_
    refine C.seq ?_
    refine C.region ?_
    first | refine R.ev rfl (E.fieldAddr0 1 rfl Tryd.underlying58 rfl Tryd.sz56 rfl) ?_ | refine R.ev rfl (E.fieldAddrN 1 rfl Tryd.underlying58 rfl Tryd.sz56 rfl) ?_
    refine R.ev rfl (E.load1 rfl Tryd.underlying56 rfl (by first | exact hs.ldc | exact hs.ld rfl | exact hs.ld (by assumption) | exact by assumption | exact At.cellC (by assumption))) ?_
    refine R.ev rfl (E.move rfl) ?_
    refine R.ev rfl (E.indexAddr rfl rfl Tryd.underlying56 Tryd.sz73 rfl (by first | omega | decide)) ?_
    first | refine R.ev rfl (E.fieldAddr0 33 rfl Tryd.underlying73 rfl Tryd.sz3 rfl) ?_ | refine R.ev rfl (E.fieldAddrN 33 rfl Tryd.underlying73 rfl Tryd.sz3 rfl) ?_
    refine R.ev rfl (E.load1 rfl Tryd.underlying3 rfl (by first | exact hs.ldc | exact hs.ld rfl | exact hs.ld (by assumption) | exact by assumption | exact At.cellC (by assumption))) ?_
    refine R.ev rfl ((E.lss rfl rfl).isB (c := y.outs) (by simp [Off.outs]; omega)) ?_
    refine R.done ?_
    refine X.keep [(1, _), (3, _), (4, _), (18, _)] ⟨rfl, rfl, rfl, rfl, trivial⟩ ?_
    refine X.next ?_
    refine C.cbool rfl (fun h18 => ?_) (fun h18 => ?_)
    · refine C.region ?_
      refine R.ev rfl (E.move rfl) ?_
      first | refine R.ev rfl (E.fieldAddr0 1 rfl Tryd.underlying58 rfl Tryd.sz56 rfl) ?_ | refine R.ev rfl (E.fieldAddrN 1 rfl Tryd.underlying58 rfl Tryd.sz56 rfl) ?_
      refine R.ev rfl (E.load1 rfl Tryd.underlying56 rfl (by first | exact hs.ldc | exact hs.ld rfl | exact hs.ld (by assumption) | exact by assumption | exact At.cellC (by assumption))) ?_
      refine R.ev rfl (E.move rfl) ?_
      refine R.ev rfl (E.indexAddr rfl rfl Tryd.underlying56 Tryd.sz73 rfl (by first | omega | decide)) ?_
      first | refine R.ev rfl (E.fieldAddr0 0 rfl Tryd.underlying73 rfl Tryd.sz37 rfl) ?_ | refine R.ev rfl (E.fieldAddrN 0 rfl Tryd.underlying73 rfl Tryd.sz37 rfl) ?_
      refine R.ev rfl (E.loadRowC rfl Tryd.underlying37 rfl Tryd.sz37 (by first | exact ⟨hs.ldA, by first | rfl | assumption | exact encV_len _ | exact Enc.len _ | exact len_ub (by assumption)⟩ | exact ⟨hs.ldP rfl, by first | rfl | assumption | exact encV_len _ | exact Enc.len _ | exact len_ub (by assumption)⟩ | exact ⟨hs.ldM rfl rfl, by first | rfl | assumption | exact encV_len _ | exact Enc.len _ | exact len_ub (by assumption)⟩ | exact ⟨hs.ldM (by assumption) (by first | rfl | assumption), by first | rfl | assumption | exact encV_len _ | exact Enc.len _ | exact len_ub (by assumption)⟩ | exact ⟨by assumption, by first | rfl | assumption | exact encV_len _ | exact Enc.len _ | exact len_ub (by assumption)⟩ | exact hs.ldp | exact At.partC (by assumption))) ?_
      refine R.buildSliceA rfl Tryd.underlying33 Tryd.sz37 Tryd.zr37 rfl (by first | rfl | assumption | exact encV_len _ | exact Enc.len _ | simp [*]) (by decide) (by decide) ?_
      intro b26 w26 n26
      have hs := hs.new n26
      refine R.capp1 (y.id) hs rfl rfl Tryd.underlying33 Tryd.by37 (by rfl) rfl (by first | exact hs.ldA | exact hs.ldP rfl | exact by assumption) (by decide) (by first | omega | (simp only [List.length_append, List.length_cons, List.length_nil] at *; omega)) (by first | omega | (simp only [List.length_append, List.length_cons, List.length_nil] at *; omega)) ?_
      intro v27 w27 F27 r27 hs
      refine R.ev rfl (E.assign rfl) ?_
      refine R.done ?_
      refine X.keep [(1, _), (3, _), (4, _)] ⟨rfl, rfl, rfl, trivial⟩ ?_
      refine X.blockNormal ?_
      refine X.next ?_
      refine C.region ?_
      refine R.ev rfl (E.move rfl) ?_
      refine R.ev rfl (E.add rfl rfl (by omega) (by omega)) ?_
      refine R.ev rfl (E.assign rfl) ?_
      refine R.done ?_
      refine X.keep [(1, _), (3, _), (4, _)] ⟨rfl, rfl, rfl, trivial⟩ ?_
      first
        | exact X.again (k + 1, v27, F27) ⟨rfl, rfl, rfl, trivial⟩ ⟨by omega, by rw [outsL_snoc hy, h18]; exact r27, hs.to⟩ (by show _ - _ < _ - _; omega)
        | exact X.again (k + 1, v, F') ⟨rfl, rfl, rfl, trivial⟩ ⟨by omega, by rw [outsL_snoc hy, h18]; simpa using r1, hs.to⟩ (by show _ - _ < _ - _; omega)
    · refine C.skip ?_
      refine X.blockNormal ?_
      refine X.next ?_
      refine C.region ?_
      refine R.ev rfl (E.move rfl) ?_
      refine R.ev rfl (E.add rfl rfl (by omega) (by omega)) ?_
      refine R.ev rfl (E.assign rfl) ?_
      refine R.done ?_
      refine X.keep [(1, _), (3, _), (4, _)] ⟨rfl, rfl, rfl, trivial⟩ ?_
      first
        | exact X.again (k + 1, v27, F27) ⟨rfl, rfl, rfl, trivial⟩ ⟨by omega, by rw [outsL_snoc hy, h18]; exact r27, hs.to⟩ (by show _ - _ < _ - _; omega)
        | exact X.again (k + 1, v, F') ⟨rfl, rfl, rfl, trivial⟩ ⟨by omega, by rw [outsL_snoc hy, h18]; simpa using r1, hs.to⟩ (by show _ - _ < _ - _; omega)
  · refine C.exit ?_
    refine X.thenExit ?_
    refine X.loopExit ?_
    refine X.blockExit ?_
    refine X.next ?_
    refine C.seq ?_
    refine C.region ?_
    refine R.ev rfl (E.move rfl) ?_
    refine R.ev rfl (E.assign rfl) ?_
    refine R.done ?_
    refine X.keep [(2, _)] ⟨rfl, trivial⟩ ?_
    refine X.next ?_
    refine C.ret ?_
    refine X.ret1 rfl rfl ?_
    exact ⟨F', by rwa [show k = L.length by omega, List.take_length] at r1, hs.to⟩
/-- what (model).do returns -/
def DoPost (K : Kn) (Hs : List Hl) (sz : Int) (L : List Off) (o : Op36) (r : Value) (w' : World) : Prop :=
  ∃ K' v' v1 v2, r = .tuple #[.agg #[.int .i64 (pS sz o), v'], .int .i64 (pE sz L o), v1, v2] ∧ KLe K K' ∧ KRow encO 34 K' v' (pL sz L o) ∧ KRow encR 33 K' v1 (pR L o) ∧ KRow encV 32 K' v2 (pD L o) ∧ Sat K' w' Hs
theorem DoPost.same {v : Value} {o : Op36} {e : Int} (h : KRow encO 34 K v L) (hs : Sat K w Hs) (h1 : pE sz L o = e) (h2 : pL sz L o = L) (h3 : pS sz o = sz) (h4 : pR L o = []) (h5 : pD L o = []) : DoPost K Hs sz L o (.tuple #[.agg #[.int .i64 sz, v], .int .i64 e, .slice none 0 0, .slice none 0 0]) w :=
  ⟨K, v, .slice none 0 0, .slice none 0 0, by rw [h1, h3], KLe.refl K, by rw [h2]; exact h, by rw [h4]; exact KRow.nil, by rw [h5]; exact KRow.nil, hs⟩
theorem DoPost.new {v : Value} {o : Op36} {e : TypeId} {L' : List Off} {sz' : Int} (h : RowL e encO 34 v L' F) (hs : Sat K w (F :: Hs)) (h1 : pE sz L o = 0) (h2 : pL sz L o = L') (h3 : pS sz o = sz') (h4 : pR L o = []) (h5 : pD L o = []) : DoPost K Hs sz L o (.tuple #[.agg #[.int .i64 sz', v], .int .i64 0, .slice none 0 0, .slice none 0 0]) w := by
  obtain ⟨K1, hk1, r1, hs1⟩ := h.freezeK hs
  exact ⟨K1, v, .slice none 0 0, .slice none 0 0, by rw [h1, h3], hk1, by rw [h2]; exact r1, by rw [h4]; exact KRow.nil, by rw [h5]; exact KRow.nil, hs1⟩
theorem idx_neg {a : Vec 32} (h : idxP (isId a) L < 0) : has a L = false := by
  have := idx_lt (a := a) (L := L); rw [decide_eq_true h] at this; simpa using this.symm
theorem idx_pos {a : Vec 32} (h : ¬ idxP (isId a) L < 0) : has a L = true := by
  have := idx_lt (a := a) (L := L); rw [decide_eq_false h] at this; simpa using this.symm
theorem take_fin {k : Nat} (h : ∀ j, j < k → ∀ y, L[j]? = some y → y.outs = false) (hk : k ≤ L.length) (hn : ∀ y, L[k]? = some y → y.outs = true) : fin L = L.take k ∧ unfin L = L.drop k := by
  induction L generalizing k with
  | nil => simp [fin, unfin]
  | cons z L ih =>
    cases k with
    | zero => have := hn z rfl; simp [fin, unfin, this]
    | succ k =>
      have h0 := h 0 (by omega) z rfl
      have := ih (k := k) (fun j hj y hy => h (j + 1) (by omega) y (by simpa using hy)) (by simpa using hk) (fun y hy => hn y (by simpa using hy))
      simp only [fin, unfin] at this ⊢
      simp [h0, this]
theorem filtL_snoc {k : Nat} {y : Off} (h : L[k]? = some y) : filtL (L.take (k + 1)) = filtL (L.take k) ++ (if y.outs then [] else [y]) := by
  rw [take_snoc h, filtL, filtL, List.filter_append]
  cases hy : y.outs <;> simp [hy]
theorem do_any {v : Value} (o : Op36) (hs : Sat K w Hs) [hr : KRow encO 34 K v L] (hL : L.length ≤ 100000) : Ret Tryd.prog 29 #[.agg #[.int .i64 sz, v], .agg (encP o).toArray] w fun r w' => DoPost K Hs sz L o r w' := by
  obtain ⟨ad, cap, rfl, hsl, hc⟩ := hr.ex
  have e2 := encV_len o.id
  have hk := kd_lt o
  have hko : ((o.kind.toNat : Int) % 5) = (kd o : Nat) := by unfold kd; omega
  refine Ret.enter (n := 166) (args := [.agg #[.int .i64 sz, .slice ad L.length cap], .agg (encP o).toArray]) Tryd.func29 rfl rfl ?_
  refine C.keep [(0, _), (1, _)] ⟨rfl, rfl, trivial⟩ ?_
  refine C.seq ?_
  refine C.region ?_
  refine R.sboxA hs rfl rfl ?_
  intro b2 w2 hs
  refine R.sboxA hs rfl rfl ?_
  intro b3 w3 hs
  refine R.sallocA hs Tryd.zr58 rfl ?_
  intro b4 w4 hs
  refine R.ev rfl (E.assign rfl) ?_
  refine R.ev rfl (E.assign rfl) ?_
  refine R.ev rfl (E.assign rfl) ?_
  refine R.done ?_
  refine X.keep [(2, _), (3, _), (4, _)] ⟨rfl, rfl, rfl, trivial⟩ ?_
  refine X.next ?_
  refine C.seq ?_
  refine C.cut [(2, _), (3, _), (4, _)] (fun ((b, _, _) : Nat × Value × Hl) => [(8, ptr b)]) (fun (b, v, F) w' => RowL 73 encO 34 v L F ∧ Sat K w' (row b 58 [.int .i64 sz, v] :: F :: row b4 58 [.int .i64 0, .slice none 0 0] :: row b3 51 (encP o) :: row b2 58 [.int .i64 sz, .slice ad L.length cap] :: Hs)) ⟨rfl, rfl, rfl, trivial⟩ ?_ ?_
  · refine C.drawn (SatS hs) ([1, 4], [0, 3, 6]) (by kernel_rfl) ?_
    have hs := hs.drew
    first | refine D.evP 0 rfl (by kernel_rfl) rfl (fun _ => hs.to) (fun _ => E.fieldAddr0 0 rfl Tryd.underlying58 rfl Tryd.sz3 rfl) ?_ | refine D.evP 0 rfl (by kernel_rfl) rfl (fun _ => hs.to) (fun _ => E.fieldAddrN 0 rfl Tryd.underlying58 rfl Tryd.sz3 rfl) ?_
    first | refine D.evP 3 rfl (by kernel_rfl) rfl (fun _ => hs.to) (fun _ => E.fieldAddr0 1 rfl Tryd.underlying58 rfl Tryd.sz56 rfl) ?_ | refine D.evP 3 rfl (by kernel_rfl) rfl (fun _ => hs.to) (fun _ => E.fieldAddrN 1 rfl Tryd.underlying58 rfl Tryd.sz56 rfl) ?_
    refine D.ev 1 rfl (by kernel_rfl) rfl hs.to (fun _ hS => E.load1 rfl Tryd.underlying3 rfl (by first | exact hS.ldc | exact hS.ld rfl | exact hS.ld (by assumption) | exact by assumption | exact At.cellC (by assumption) | exact At.cellC ((by assumption : ∀ w', Sat _ w' _ → At w' _ _ _) _ hS) | exact (by assumption : ∀ w', Sat _ w' _ → World.cell? w' _ = some _) _ hS)) ?_
    refine D.ev 4 rfl (by kernel_rfl) rfl hs.to (fun _ hS => E.load1 rfl Tryd.underlying56 rfl (by first | exact hS.ldc | exact hS.ld rfl | exact hS.ld (by assumption) | exact by assumption | exact At.cellC (by assumption) | exact At.cellC ((by assumption : ∀ w', Sat _ w' _ → At w' _ _ _) _ hS) | exact (by assumption : ∀ w', Sat _ w' _ → World.cell? w' _ = some _) _ hS)) ?_
    refine D.act2 2 7 rfl rfl (by kernel_rfl) ?_ ?_
    · refine R.sbuild0 (enc := encO) hs Tryd.underlying56 Tryd.sz73 rfl ?_
      intro v14 w14 F14 r14 nn14 hs
      refine D.back hs.to ?_
      refine D.act2 5 7 rfl rfl (by kernel_rfl) ?_ ?_
      · refine R.cappSl hs rfl rfl Tryd.underlying56 Tryd.by73 (by rfl) rfl (by decide) (by first | omega | (simp only [List.length_append, List.length_cons, List.length_nil] at *; omega)) (by first | omega | (simp only [List.length_append, List.length_cons, List.length_nil] at *; omega)) ?_
        intro v17 w17 F17 r17 hs
        rw [List.nil_append] at r17
        refine D.back hs.to ?_
        refine D.evP 6 rfl (by kernel_rfl) rfl (fun _ => hs.to) (fun _ => E.buildF (r := [.int .i64 sz, v17]) rfl Tryd.underlying58 Tryd.zr58 Tryd.pl58 (by kernel_rfl) (by kernel_rfl) ⟨⟨_, rfl, rfl⟩, ⟨_, rfl, by obtain ⟨ad', cap', rfl, _⟩ := r17.val; rfl⟩, trivial⟩ (by obtain ⟨ad', cap', rfl, _⟩ := r17.val; rfl)) ?_
        refine D.act 7 rfl (by kernel_rfl) ?_
        refine R.sallocA hs Tryd.zr58 rfl ?_
        intro b8 w8 hs
        refine D.back hs.to ?_
        refine D.act 8 rfl (by kernel_rfl) ?_
        first | refine R.cstoreAll hs rfl rfl Tryd.sz58 (by first | rfl | assumption | exact encV_len _ | exact Enc.len _ | exact len_ub (by assumption) | simp [*]) (by first | rfl | assumption | exact encV_len _ | exact Enc.len _ | exact len_ub (by assumption) | simp [*]) (by first | assumption | exact OneL.all | exact Enc.one _ | exact ub_all _ | (repeat' (first | refine List.forall_mem_cons.2 ⟨?_, ?_⟩ | exact List.forall_mem_nil _ | rfl | exact OneC.one | exact KRow.oneC' (by assumption)))) ?_ | refine R.cstore hs rfl rfl Tryd.sz58 (by first | rfl | assumption | exact encV_len _ | exact Enc.len _ | exact len_ub (by assumption) | simp [*]) (by simp [*]) (by first | assumption | exact OneL.all | exact Enc.one _ | exact ub_all _ | (repeat' (first | refine List.forall_mem_cons.2 ⟨?_, ?_⟩ | exact List.forall_mem_nil _ | rfl | exact OneC.one | exact KRow.oneC' (by assumption)))) ?_
        intro w1_8 hs
        try simp only [List.set_cons_zero, List.set_cons_succ] at hs
        refine D.backT (by kernel_rfl) ?_
        refine D.done rfl (by kernel_rfl) ?_
        refine X.keep [(2, _), (3, _), (4, _), (8, _)] ⟨rfl, rfl, rfl, rfl, trivial⟩ ?_
        refine X.cut ((b8, v17, F17)) ⟨lkV rfl ?_, rfl, rfl, rfl, trivial⟩ ?_
        · rfl
        · exact ⟨r17, hs.to⟩
      · refine R.sallocA hs Tryd.zr58 rfl ?_
        intro b8 w8 hs
        refine D.back hs.to ?_
        refine D.act 5 rfl (by kernel_rfl) ?_
        refine R.cappSl hs rfl rfl Tryd.underlying56 Tryd.by73 (by rfl) rfl (by decide) (by first | omega | (simp only [List.length_append, List.length_cons, List.length_nil] at *; omega)) (by first | omega | (simp only [List.length_append, List.length_cons, List.length_nil] at *; omega)) ?_
        intro v17 w17 F17 r17 hs
        rw [List.nil_append] at r17
        refine D.back hs.to ?_
        refine D.evP 6 rfl (by kernel_rfl) rfl (fun _ => hs.to) (fun _ => E.buildF (r := [.int .i64 sz, v17]) rfl Tryd.underlying58 Tryd.zr58 Tryd.pl58 (by kernel_rfl) (by kernel_rfl) ⟨⟨_, rfl, rfl⟩, ⟨_, rfl, by obtain ⟨ad', cap', rfl, _⟩ := r17.val; rfl⟩, trivial⟩ (by obtain ⟨ad', cap', rfl, _⟩ := r17.val; rfl)) ?_
        refine D.act 8 rfl (by kernel_rfl) ?_
        first | refine R.cstoreAll hs rfl rfl Tryd.sz58 (by first | rfl | assumption | exact encV_len _ | exact Enc.len _ | exact len_ub (by assumption) | simp [*]) (by first | rfl | assumption | exact encV_len _ | exact Enc.len _ | exact len_ub (by assumption) | simp [*]) (by first | assumption | exact OneL.all | exact Enc.one _ | exact ub_all _ | (repeat' (first | refine List.forall_mem_cons.2 ⟨?_, ?_⟩ | exact List.forall_mem_nil _ | rfl | exact OneC.one | exact KRow.oneC' (by assumption)))) ?_ | refine R.cstore hs rfl rfl Tryd.sz58 (by first | rfl | assumption | exact encV_len _ | exact Enc.len _ | exact len_ub (by assumption) | simp [*]) (by simp [*]) (by first | assumption | exact OneL.all | exact Enc.one _ | exact ub_all _ | (repeat' (first | refine List.forall_mem_cons.2 ⟨?_, ?_⟩ | exact List.forall_mem_nil _ | rfl | exact OneC.one | exact KRow.oneC' (by assumption)))) ?_
        intro w1_8 hs
        try simp only [List.set_cons_zero, List.set_cons_succ] at hs
        refine D.backT (by kernel_rfl) ?_
        refine D.done rfl (by kernel_rfl) ?_
        refine X.keep [(2, _), (3, _), (4, _), (8, _)] ⟨rfl, rfl, rfl, rfl, trivial⟩ ?_
        refine X.cut ((b8, v17, F17)) ⟨lkV rfl ?_, rfl, rfl, rfl, trivial⟩ ?_
        · rfl
        · exact ⟨r17, hs.to⟩
    · refine R.sallocA hs Tryd.zr58 rfl ?_
      intro b8 w8 hs
      refine D.back hs.to ?_
      refine D.act 2 rfl (by kernel_rfl) ?_
      refine R.sbuild0 (enc := encO) hs Tryd.underlying56 Tryd.sz73 rfl ?_
      intro v14 w14 F14 r14 nn14 hs
      refine D.back hs.to ?_
      refine D.act 5 rfl (by kernel_rfl) ?_
      refine R.cappSl hs rfl rfl Tryd.underlying56 Tryd.by73 (by rfl) rfl (by decide) (by first | omega | (simp only [List.length_append, List.length_cons, List.length_nil] at *; omega)) (by first | omega | (simp only [List.length_append, List.length_cons, List.length_nil] at *; omega)) ?_
      intro v17 w17 F17 r17 hs
      rw [List.nil_append] at r17
      refine D.back hs.to ?_
      refine D.evP 6 rfl (by kernel_rfl) rfl (fun _ => hs.to) (fun _ => E.buildF (r := [.int .i64 sz, v17]) rfl Tryd.underlying58 Tryd.zr58 Tryd.pl58 (by kernel_rfl) (by kernel_rfl) ⟨⟨_, rfl, rfl⟩, ⟨_, rfl, by obtain ⟨ad', cap', rfl, _⟩ := r17.val; rfl⟩, trivial⟩ (by obtain ⟨ad', cap', rfl, _⟩ := r17.val; rfl)) ?_
      refine D.act 8 rfl (by kernel_rfl) ?_
      first | refine R.cstoreAll hs rfl rfl Tryd.sz58 (by first | rfl | assumption | exact encV_len _ | exact Enc.len _ | exact len_ub (by assumption) | simp [*]) (by first | rfl | assumption | exact encV_len _ | exact Enc.len _ | exact len_ub (by assumption) | simp [*]) (by first | assumption | exact OneL.all | exact Enc.one _ | exact ub_all _ | (repeat' (first | refine List.forall_mem_cons.2 ⟨?_, ?_⟩ | exact List.forall_mem_nil _ | rfl | exact OneC.one | exact KRow.oneC' (by assumption)))) ?_ | refine R.cstore hs rfl rfl Tryd.sz58 (by first | rfl | assumption | exact encV_len _ | exact Enc.len _ | exact len_ub (by assumption) | simp [*]) (by simp [*]) (by first | assumption | exact OneL.all | exact Enc.one _ | exact ub_all _ | (repeat' (first | refine List.forall_mem_cons.2 ⟨?_, ?_⟩ | exact List.forall_mem_nil _ | rfl | exact OneC.one | exact KRow.oneC' (by assumption)))) ?_
      intro w1_8 hs
      try simp only [List.set_cons_zero, List.set_cons_succ] at hs
      refine D.backT (by kernel_rfl) ?_
      refine D.done rfl (by kernel_rfl) ?_
      refine X.keep [(2, _), (3, _), (4, _), (8, _)] ⟨rfl, rfl, rfl, rfl, trivial⟩ ?_
      refine X.cut ((b8, v17, F17)) ⟨lkV rfl ?_, rfl, rfl, rfl, trivial⟩ ?_
      · rfl
      · exact ⟨r17, hs.to⟩
  · rintro ⟨b8, v17, F17⟩ w8 ⟨r17, hs⟩
    refine X.keep [(2, _), (3, _), (4, _), (8, _)] ⟨rfl, rfl, rfl, rfl, trivial⟩ ?_
    refine X.next ?_
    refine C.seq ?_
    refine C.region ?_
    refine R.ev rfl (E.loadRowC rfl Tryd.underlying58 rfl Tryd.sz58 (by first | exact ⟨hs.ldA, by first | rfl | assumption | exact encV_len _ | exact Enc.len _ | exact len_ub (by assumption)⟩ | exact ⟨hs.ldP rfl, by first | rfl | assumption | exact encV_len _ | exact Enc.len _ | exact len_ub (by assumption)⟩ | exact ⟨hs.ldM rfl rfl, by first | rfl | assumption | exact encV_len _ | exact Enc.len _ | exact len_ub (by assumption)⟩ | exact ⟨hs.ldM (by assumption) (by first | rfl | assumption), by first | rfl | assumption | exact encV_len _ | exact Enc.len _ | exact len_ub (by assumption)⟩ | exact ⟨by assumption, by first | rfl | assumption | exact encV_len _ | exact Enc.len _ | exact len_ub (by assumption)⟩ | exact hs.ldp | exact At.partC (by assumption))) ?_
    first | refine R.ev rfl (E.fieldAddr0 1 rfl Tryd.underlying51 rfl Tryd.sz37 rfl) ?_ | refine R.ev rfl (E.fieldAddrN 1 rfl Tryd.underlying51 rfl Tryd.sz37 rfl) ?_
    refine R.ev rfl (E.loadRowC rfl Tryd.underlying37 rfl Tryd.sz37 (by first | exact ⟨hs.ldA, by first | rfl | assumption | exact encV_len _ | exact Enc.len _ | exact len_ub (by assumption)⟩ | exact ⟨hs.ldP rfl, by first | rfl | assumption | exact encV_len _ | exact Enc.len _ | exact len_ub (by assumption)⟩ | exact ⟨hs.ldM rfl rfl, by first | rfl | assumption | exact encV_len _ | exact Enc.len _ | exact len_ub (by assumption)⟩ | exact ⟨hs.ldM (by assumption) (by first | rfl | assumption), by first | rfl | assumption | exact encV_len _ | exact Enc.len _ | exact len_ub (by assumption)⟩ | exact ⟨by assumption, by first | rfl | assumption | exact encV_len _ | exact Enc.len _ | exact len_ub (by assumption)⟩ | exact hs.ldp | exact At.partC (by assumption))) ?_
    refine R.call ⟨_, _, Tryd.func33, rfl, by kernel_rfl⟩ rfl rfl (mfind_any (sz := sz) (L := L) o.id hs (by omega)) ?_
    rintro _ w2 ⟨rfl, hs⟩
    refine R.ev rfl (E.assign rfl) ?_
    refine R.done ?_
    refine X.keep [(2, _), (3, _), (4, _), (8, _), (9, _)] ⟨rfl, rfl, rfl, rfl, rfl, trivial⟩ ?_
    refine X.next ?_
    refine C.seq ?_
    refine C.seq ?_
    refine C.region ?_
    first | refine R.ev rfl (E.fieldAddr0 0 rfl Tryd.underlying51 rfl Tryd.sz5 rfl) ?_ | refine R.ev rfl (E.fieldAddrN 0 rfl Tryd.underlying51 rfl Tryd.sz5 rfl) ?_
    refine R.ev rfl (E.load1 rfl Tryd.underlying5 rfl (by first | exact hs.ldc | exact hs.ld rfl | exact hs.ld (by assumption) | exact by assumption | exact At.cellC (by assumption))) ?_
    refine R.ev rfl ((E.rem rfl rfl (by decide) (by omega)).isI (c := (kd o : Nat)) hko) ?_
    refine R.done ?_
    refine X.keep [(2, _), (3, _), (4, _), (8, _), (9, _), (25, _)] ⟨rfl, rfl, rfl, rfl, rfl, rfl, trivial⟩ ?_
    refine X.next ?_
    refine C.block ?_
    refine C.seq ?_
    refine C.region ?_
    refine R.ev rfl (E.eql rfl rfl) ?_
    refine R.ev rfl (E.assign rfl) ?_
    refine R.done ?_
    refine X.keep [(2, _), (3, _), (4, _), (8, _), (9, _), (25, _), (38, _)] ⟨rfl, rfl, rfl, rfl, rfl, rfl, rfl, trivial⟩ ?_
    refine X.next ?_
    refine C.cdec rfl (fun h38 => ?_) (fun h38 => ?_)
    · have hk0 : kd o = 0 := by omega
      refine C.seq ?_
      refine C.seq ?_
      refine C.region ?_
      first | refine R.ev rfl (E.fieldAddr0 33 rfl Tryd.underlying51 rfl Tryd.sz3 rfl) ?_ | refine R.ev rfl (E.fieldAddrN 33 rfl Tryd.underlying51 rfl Tryd.sz3 rfl) ?_
      refine R.ev rfl (E.load1 rfl Tryd.underlying3 rfl (by first | exact hs.ldc | exact hs.ld rfl | exact hs.ld (by assumption) | exact by assumption | exact At.cellC (by assumption))) ?_
      refine R.ev rfl (E.lss rfl rfl) ?_
      refine R.ev rfl (E.move rfl) ?_
      refine R.split 43 rfl (fun h43 => ?_) (fun h43 => ?_)
      · refine R.gskip rfl rfl rfl ?_
        refine R.gskip rfl rfl rfl ?_
        refine R.gskip rfl rfl rfl ?_
        refine R.ev rfl (E.pickT rfl rfl) ?_
        refine R.done ?_
        refine X.keep [(2, _), (3, _), (4, _), (8, _), (9, _), (47, _)] ⟨rfl, rfl, rfl, rfl, rfl, rfl, trivial⟩ ?_
        refine X.next ?_
        refine C.ctrue rfl ?_
        refine C.seq ?_
        refine C.region ?_
        refine R.ev rfl (E.loadRowC rfl Tryd.underlying58 rfl Tryd.sz58 (by first | exact ⟨hs.ldA, by first | rfl | assumption | exact encV_len _ | exact Enc.len _ | exact len_ub (by assumption)⟩ | exact ⟨hs.ldP rfl, by first | rfl | assumption | exact encV_len _ | exact Enc.len _ | exact len_ub (by assumption)⟩ | exact ⟨hs.ldM rfl rfl, by first | rfl | assumption | exact encV_len _ | exact Enc.len _ | exact len_ub (by assumption)⟩ | exact ⟨hs.ldM (by assumption) (by first | rfl | assumption), by first | rfl | assumption | exact encV_len _ | exact Enc.len _ | exact len_ub (by assumption)⟩ | exact ⟨by assumption, by first | rfl | assumption | exact encV_len _ | exact Enc.len _ | exact len_ub (by assumption)⟩ | exact hs.ldp | exact At.partC (by assumption))) ?_
        first | refine R.cstoreAll hs rfl rfl Tryd.sz58 (by first | rfl | assumption | exact encV_len _ | exact Enc.len _ | exact len_ub (by assumption) | simp [*]) (by first | rfl | assumption | exact encV_len _ | exact Enc.len _ | exact len_ub (by assumption) | simp [*]) (by first | assumption | exact OneL.all | exact Enc.one _ | exact ub_all _ | (repeat' (first | refine List.forall_mem_cons.2 ⟨?_, ?_⟩ | exact List.forall_mem_nil _ | rfl | exact OneC.one | exact KRow.oneC' (by assumption)))) ?_ | refine R.cstore hs rfl rfl Tryd.sz58 (by first | rfl | assumption | exact encV_len _ | exact Enc.len _ | exact len_ub (by assumption) | simp [*]) (by simp [*]) (by first | assumption | exact OneL.all | exact Enc.one _ | exact ub_all _ | (repeat' (first | refine List.forall_mem_cons.2 ⟨?_, ?_⟩ | exact List.forall_mem_nil _ | rfl | exact OneC.one | exact KRow.oneC' (by assumption)))) ?_
        intro w9_1 hs
        try simp only [List.set_cons_zero, List.set_cons_succ] at hs
        refine R.ev rfl (E.assign rfl) ?_
        refine R.ev rfl (E.assign rfl) ?_
        refine R.ev rfl (E.assign rfl) ?_
        refine R.done ?_
        refine X.keep [(4, _), (5, _), (6, _), (7, _)] ⟨rfl, rfl, rfl, rfl, trivial⟩ ?_
        refine X.next ?_
        refine C.ret ?_
        refine X.thenRet ?_
        refine X.blockRet ?_
        refine X.thenRet ?_
        refine X.resCTTT rfl rfl Tryd.underlying58 rfl Tryd.sz58 (by first | exact ⟨hs.ldA, by first | rfl | assumption | exact encV_len _ | exact Enc.len _ | exact len_ub (by assumption)⟩ | exact ⟨hs.ldP rfl, by first | rfl | assumption | exact encV_len _ | exact Enc.len _ | exact len_ub (by assumption)⟩ | exact ⟨by assumption, by first | rfl | assumption | exact encV_len _ | exact Enc.len _ | exact len_ub (by assumption)⟩) rfl rfl rfl ?_
        have hE : offerE sz L o.id o.n = 2 := by rw [offerE, if_pos]; first | (simp_all; done) | (simp_all; omega)
        exact DoPost.same hr hs.to (by simp only [pE, hk0, hE]) (by simp only [pL, hk0, offerL, hE]; rfl) (by simp only [pS, hk0]) (by simp only [pR, hk0]) (by simp only [pD, hk0])
      · refine R.gyes rfl rfl ?_
        first | refine R.ev rfl (E.fieldAddr0 33 rfl Tryd.underlying51 rfl Tryd.sz3 rfl) ?_ | refine R.ev rfl (E.fieldAddrN 33 rfl Tryd.underlying51 rfl Tryd.sz3 rfl) ?_
        refine R.gyes rfl rfl ?_
        refine R.ev rfl (E.load1 rfl Tryd.underlying3 rfl (by first | exact hs.ldc | exact hs.ld rfl | exact hs.ld (by assumption) | exact by assumption | exact At.cellC (by assumption))) ?_
        refine R.gyes rfl rfl ?_
        refine R.ev rfl (E.gtr rfl rfl) ?_
        refine R.ev rfl (E.pickF rfl rfl) ?_
        refine R.done ?_
        refine X.keep [(2, _), (3, _), (4, _), (8, _), (9, _), (47, _)] ⟨rfl, rfl, rfl, rfl, rfl, rfl, trivial⟩ ?_
        refine X.next ?_
        refine C.cbool rfl (fun h47 => ?_) (fun h47 => ?_)
        · refine C.seq ?_
          refine C.region ?_
          refine R.ev rfl (E.loadRowC rfl Tryd.underlying58 rfl Tryd.sz58 (by first | exact ⟨hs.ldA, by first | rfl | assumption | exact encV_len _ | exact Enc.len _ | exact len_ub (by assumption)⟩ | exact ⟨hs.ldP rfl, by first | rfl | assumption | exact encV_len _ | exact Enc.len _ | exact len_ub (by assumption)⟩ | exact ⟨hs.ldM rfl rfl, by first | rfl | assumption | exact encV_len _ | exact Enc.len _ | exact len_ub (by assumption)⟩ | exact ⟨hs.ldM (by assumption) (by first | rfl | assumption), by first | rfl | assumption | exact encV_len _ | exact Enc.len _ | exact len_ub (by assumption)⟩ | exact ⟨by assumption, by first | rfl | assumption | exact encV_len _ | exact Enc.len _ | exact len_ub (by assumption)⟩ | exact hs.ldp | exact At.partC (by assumption))) ?_
          first | refine R.cstoreAll hs rfl rfl Tryd.sz58 (by first | rfl | assumption | exact encV_len _ | exact Enc.len _ | exact len_ub (by assumption) | simp [*]) (by first | rfl | assumption | exact encV_len _ | exact Enc.len _ | exact len_ub (by assumption) | simp [*]) (by first | assumption | exact OneL.all | exact Enc.one _ | exact ub_all _ | (repeat' (first | refine List.forall_mem_cons.2 ⟨?_, ?_⟩ | exact List.forall_mem_nil _ | rfl | exact OneC.one | exact KRow.oneC' (by assumption)))) ?_ | refine R.cstore hs rfl rfl Tryd.sz58 (by first | rfl | assumption | exact encV_len _ | exact Enc.len _ | exact len_ub (by assumption) | simp [*]) (by simp [*]) (by first | assumption | exact OneL.all | exact Enc.one _ | exact ub_all _ | (repeat' (first | refine List.forall_mem_cons.2 ⟨?_, ?_⟩ | exact List.forall_mem_nil _ | rfl | exact OneC.one | exact KRow.oneC' (by assumption)))) ?_
          intro w9_1 hs
          try simp only [List.set_cons_zero, List.set_cons_succ] at hs
          refine R.ev rfl (E.assign rfl) ?_
          refine R.ev rfl (E.assign rfl) ?_
          refine R.ev rfl (E.assign rfl) ?_
          refine R.done ?_
          refine X.keep [(4, _), (5, _), (6, _), (7, _)] ⟨rfl, rfl, rfl, rfl, trivial⟩ ?_
          refine X.next ?_
          refine C.ret ?_
          refine X.thenRet ?_
          refine X.blockRet ?_
          refine X.thenRet ?_
          refine X.resCTTT rfl rfl Tryd.underlying58 rfl Tryd.sz58 (by first | exact ⟨hs.ldA, by first | rfl | assumption | exact encV_len _ | exact Enc.len _ | exact len_ub (by assumption)⟩ | exact ⟨hs.ldP rfl, by first | rfl | assumption | exact encV_len _ | exact Enc.len _ | exact len_ub (by assumption)⟩ | exact ⟨by assumption, by first | rfl | assumption | exact encV_len _ | exact Enc.len _ | exact len_ub (by assumption)⟩) rfl rfl rfl ?_
          have hE : offerE sz L o.id o.n = 2 := by rw [offerE, if_pos]; first | (simp_all; done) | (simp_all; omega)
          exact DoPost.same hr hs.to (by simp only [pE, hk0, hE]) (by simp only [pL, hk0, offerL, hE]; rfl) (by simp only [pS, hk0]) (by simp only [pR, hk0]) (by simp only [pD, hk0])
        · refine C.skip ?_
          refine X.next ?_
          refine C.seq ?_
          refine C.seq ?_
          refine C.region ?_
          have hn : ¬ (o.n < 0 ∨ 65536 < o.n) := by first | (simp_all; done) | (simp_all; omega)
          refine R.ev rfl (E.move rfl) ?_
          refine R.ev rfl ((E.geq rfl rfl).isB (c := has o.id L) idx_ge) ?_
          refine R.done ?_
          refine X.keep [(2, _), (3, _), (4, _), (8, _), (50, _)] ⟨rfl, rfl, rfl, rfl, rfl, trivial⟩ ?_
          refine X.next ?_
          refine C.cbool rfl (fun h50 => ?_) (fun h50 => ?_)
          · refine C.seq ?_
            refine C.region ?_
            refine R.ev rfl (E.loadRowC rfl Tryd.underlying58 rfl Tryd.sz58 (by first | exact ⟨hs.ldA, by first | rfl | assumption | exact encV_len _ | exact Enc.len _ | exact len_ub (by assumption)⟩ | exact ⟨hs.ldP rfl, by first | rfl | assumption | exact encV_len _ | exact Enc.len _ | exact len_ub (by assumption)⟩ | exact ⟨hs.ldM rfl rfl, by first | rfl | assumption | exact encV_len _ | exact Enc.len _ | exact len_ub (by assumption)⟩ | exact ⟨hs.ldM (by assumption) (by first | rfl | assumption), by first | rfl | assumption | exact encV_len _ | exact Enc.len _ | exact len_ub (by assumption)⟩ | exact ⟨by assumption, by first | rfl | assumption | exact encV_len _ | exact Enc.len _ | exact len_ub (by assumption)⟩ | exact hs.ldp | exact At.partC (by assumption))) ?_
            first | refine R.cstoreAll hs rfl rfl Tryd.sz58 (by first | rfl | assumption | exact encV_len _ | exact Enc.len _ | exact len_ub (by assumption) | simp [*]) (by first | rfl | assumption | exact encV_len _ | exact Enc.len _ | exact len_ub (by assumption) | simp [*]) (by first | assumption | exact OneL.all | exact Enc.one _ | exact ub_all _ | (repeat' (first | refine List.forall_mem_cons.2 ⟨?_, ?_⟩ | exact List.forall_mem_nil _ | rfl | exact OneC.one | exact KRow.oneC' (by assumption)))) ?_ | refine R.cstore hs rfl rfl Tryd.sz58 (by first | rfl | assumption | exact encV_len _ | exact Enc.len _ | exact len_ub (by assumption) | simp [*]) (by simp [*]) (by first | assumption | exact OneL.all | exact Enc.one _ | exact ub_all _ | (repeat' (first | refine List.forall_mem_cons.2 ⟨?_, ?_⟩ | exact List.forall_mem_nil _ | rfl | exact OneC.one | exact KRow.oneC' (by assumption)))) ?_
            intro w11_1 hs
            try simp only [List.set_cons_zero, List.set_cons_succ] at hs
            refine R.ev rfl (E.assign rfl) ?_
            refine R.ev rfl (E.assign rfl) ?_
            refine R.ev rfl (E.assign rfl) ?_
            refine R.done ?_
            refine X.keep [(4, _), (5, _), (6, _), (7, _)] ⟨rfl, rfl, rfl, rfl, trivial⟩ ?_
            refine X.next ?_
            refine C.ret ?_
            refine X.thenRet ?_
            refine X.blockRet ?_
            refine X.thenRet ?_
            refine X.resCTTT rfl rfl Tryd.underlying58 rfl Tryd.sz58 (by first | exact ⟨hs.ldA, by first | rfl | assumption | exact encV_len _ | exact Enc.len _ | exact len_ub (by assumption)⟩ | exact ⟨hs.ldP rfl, by first | rfl | assumption | exact encV_len _ | exact Enc.len _ | exact len_ub (by assumption)⟩ | exact ⟨by assumption, by first | rfl | assumption | exact encV_len _ | exact Enc.len _ | exact len_ub (by assumption)⟩) rfl rfl rfl ?_
            have hE : offerE sz L o.id o.n = 7 := by rw [offerE, if_neg hn, if_pos h50]
            exact DoPost.same hr hs.to (by simp only [pE, hk0, hE]) (by simp only [pL, hk0, offerL, hE]; rfl) (by simp only [pS, hk0]) (by simp only [pR, hk0]) (by simp only [pD, hk0])
          · refine C.skip ?_
            refine X.next ?_
            refine C.seq ?_
            refine C.seq ?_
            refine C.drawn (SatS hs) ([0, 4], [2, 3, 5]) (by kernel_rfl) ?_
            have hs := hs.drew
            first | refine D.evP 3 rfl (by kernel_rfl) rfl (fun _ => hs.to) (fun _ => E.fieldAddr0 0 rfl Tryd.underlying58 rfl Tryd.sz3 rfl) ?_ | refine D.evP 3 rfl (by kernel_rfl) rfl (fun _ => hs.to) (fun _ => E.fieldAddrN 0 rfl Tryd.underlying58 rfl Tryd.sz3 rfl) ?_
            refine D.ev 0 rfl (by kernel_rfl) rfl hs.to (fun _ hS => E.loadRowC rfl Tryd.underlying58 rfl Tryd.sz58 (by first | exact ⟨hS.ldA, by first | rfl | assumption | exact encV_len _ | exact Enc.len _ | exact len_ub (by assumption)⟩ | exact ⟨hS.ldP rfl, by first | rfl | assumption | exact encV_len _ | exact Enc.len _ | exact len_ub (by assumption)⟩ | exact ⟨hS.ldM rfl rfl, by first | rfl | assumption | exact encV_len _ | exact Enc.len _ | exact len_ub (by assumption)⟩ | exact ⟨hS.ldM (by assumption) (by first | rfl | assumption), by first | rfl | assumption | exact encV_len _ | exact Enc.len _ | exact len_ub (by assumption)⟩ | exact ⟨by assumption, by first | rfl | assumption | exact encV_len _ | exact Enc.len _ | exact len_ub (by assumption)⟩ | exact ⟨(by assumption : ∀ w', Sat _ w' _ → At w' _ _ _) _ hS, by first | rfl | assumption | exact encV_len _ | exact Enc.len _ | exact len_ub (by assumption)⟩ | exact hS.ldp | exact At.partC (by assumption) | exact At.partC ((by assumption : ∀ w', Sat _ w' _ → At w' _ _ _) _ hS))) ?_
            refine D.ev 4 rfl (by kernel_rfl) rfl hs.to (fun _ hS => E.load1 rfl Tryd.underlying3 rfl (by first | exact hS.ldc | exact hS.ld rfl | exact hS.ld (by assumption) | exact by assumption | exact At.cellC (by assumption) | exact At.cellC ((by assumption : ∀ w', Sat _ w' _ → At w' _ _ _) _ hS) | exact (by assumption : ∀ w', Sat _ w' _ → World.cell? w' _ = some _) _ hS)) ?_
            refine D.act 1 rfl (by kernel_rfl) ?_
            refine R.call ⟨_, _, Tryd.func28, rfl, by kernel_rfl⟩ rfl rfl (mouts_any (sz := sz) (L := L) hs (by omega)) ?_
            rintro v12 w12 ⟨F12, r12, hs⟩
            obtain ⟨ad12, cap12, rfl, _⟩ := r12.val
            refine D.back hs.to ?_
            refine D.evP 2 rfl (by kernel_rfl) rfl (fun _ => hs.to) (fun _ => E.lenSl rfl Tryd.underlying33) ?_
            refine D.evP 5 rfl (by kernel_rfl) rfl (fun _ => hs.to) (fun _ => (E.geq rfl rfl).isB (c := decide (sz ≤ cnt L)) (by rw [outsL_len])) ?_
            refine D.done rfl (by kernel_rfl) ?_
            refine X.keep [(2, _), (3, _), (4, _), (8, _), (57, _)] ⟨rfl, rfl, rfl, rfl, rfl, trivial⟩ ?_
            refine X.next ?_
            refine C.cdec rfl (fun h57 => ?_) (fun h57 => ?_)
            · refine C.seq ?_
              refine C.region ?_
              refine R.ev rfl (E.loadRowC rfl Tryd.underlying58 rfl Tryd.sz58 (by first | exact ⟨hs.ldA, by first | rfl | assumption | exact encV_len _ | exact Enc.len _ | exact len_ub (by assumption)⟩ | exact ⟨hs.ldP rfl, by first | rfl | assumption | exact encV_len _ | exact Enc.len _ | exact len_ub (by assumption)⟩ | exact ⟨hs.ldM rfl rfl, by first | rfl | assumption | exact encV_len _ | exact Enc.len _ | exact len_ub (by assumption)⟩ | exact ⟨hs.ldM (by assumption) (by first | rfl | assumption), by first | rfl | assumption | exact encV_len _ | exact Enc.len _ | exact len_ub (by assumption)⟩ | exact ⟨by assumption, by first | rfl | assumption | exact encV_len _ | exact Enc.len _ | exact len_ub (by assumption)⟩ | exact hs.ldp | exact At.partC (by assumption))) ?_
              first | refine R.cstoreAll hs rfl rfl Tryd.sz58 (by first | rfl | assumption | exact encV_len _ | exact Enc.len _ | exact len_ub (by assumption) | simp [*]) (by first | rfl | assumption | exact encV_len _ | exact Enc.len _ | exact len_ub (by assumption) | simp [*]) (by first | assumption | exact OneL.all | exact Enc.one _ | exact ub_all _ | (repeat' (first | refine List.forall_mem_cons.2 ⟨?_, ?_⟩ | exact List.forall_mem_nil _ | rfl | exact OneC.one | exact KRow.oneC' (by assumption)))) ?_ | refine R.cstore hs rfl rfl Tryd.sz58 (by first | rfl | assumption | exact encV_len _ | exact Enc.len _ | exact len_ub (by assumption) | simp [*]) (by simp [*]) (by first | assumption | exact OneL.all | exact Enc.one _ | exact ub_all _ | (repeat' (first | refine List.forall_mem_cons.2 ⟨?_, ?_⟩ | exact List.forall_mem_nil _ | rfl | exact OneC.one | exact KRow.oneC' (by assumption)))) ?_
              intro w13_1 hs
              try simp only [List.set_cons_zero, List.set_cons_succ] at hs
              refine R.ev rfl (E.assign rfl) ?_
              refine R.ev rfl (E.assign rfl) ?_
              refine R.ev rfl (E.assign rfl) ?_
              refine R.done ?_
              refine X.keep [(4, _), (5, _), (6, _), (7, _)] ⟨rfl, rfl, rfl, rfl, trivial⟩ ?_
              refine X.next ?_
              refine C.ret ?_
              refine X.thenRet ?_
              refine X.blockRet ?_
              refine X.thenRet ?_
              refine X.resCTTT rfl rfl Tryd.underlying58 rfl Tryd.sz58 (by first | exact ⟨hs.ldA, by first | rfl | assumption | exact encV_len _ | exact Enc.len _ | exact len_ub (by assumption)⟩ | exact ⟨hs.ldP rfl, by first | rfl | assumption | exact encV_len _ | exact Enc.len _ | exact len_ub (by assumption)⟩ | exact ⟨by assumption, by first | rfl | assumption | exact encV_len _ | exact Enc.len _ | exact len_ub (by assumption)⟩) rfl rfl rfl ?_
              have hE : offerE sz L o.id o.n = 25 := by rw [offerE, if_neg hn, h50, if_neg (by decide), if_pos h57]
              exact DoPost.same hr hs.to (by simp only [pE, hk0, hE]) (by simp only [pL, hk0, offerL, hE]; rfl) (by simp only [pS, hk0]) (by simp only [pR, hk0]) (by simp only [pD, hk0])
            · refine C.skip ?_
              refine X.next ?_
              refine C.region ?_
              first | refine R.ev rfl (E.fieldAddr0 1 rfl Tryd.underlying58 rfl Tryd.sz56 rfl) ?_ | refine R.ev rfl (E.fieldAddrN 1 rfl Tryd.underlying58 rfl Tryd.sz56 rfl) ?_
              refine R.ev rfl (E.load1 rfl Tryd.underlying56 rfl (by first | exact hs.ldc | exact hs.ld rfl | exact hs.ld (by assumption) | exact by assumption | exact At.cellC (by assumption))) ?_
              first | refine R.ev rfl (E.fieldAddr0 1 rfl Tryd.underlying51 rfl Tryd.sz37 rfl) ?_ | refine R.ev rfl (E.fieldAddrN 1 rfl Tryd.underlying51 rfl Tryd.sz37 rfl) ?_
              refine R.ev rfl (E.loadRowC rfl Tryd.underlying37 rfl Tryd.sz37 (by first | exact ⟨hs.ldA, by first | rfl | assumption | exact encV_len _ | exact Enc.len _ | exact len_ub (by assumption)⟩ | exact ⟨hs.ldP rfl, by first | rfl | assumption | exact encV_len _ | exact Enc.len _ | exact len_ub (by assumption)⟩ | exact ⟨hs.ldM rfl rfl, by first | rfl | assumption | exact encV_len _ | exact Enc.len _ | exact len_ub (by assumption)⟩ | exact ⟨hs.ldM (by assumption) (by first | rfl | assumption), by first | rfl | assumption | exact encV_len _ | exact Enc.len _ | exact len_ub (by assumption)⟩ | exact ⟨by assumption, by first | rfl | assumption | exact encV_len _ | exact Enc.len _ | exact len_ub (by assumption)⟩ | exact hs.ldp | exact At.partC (by assumption))) ?_
              first | refine R.ev rfl (E.fieldAddr0 33 rfl Tryd.underlying51 rfl Tryd.sz3 rfl) ?_ | refine R.ev rfl (E.fieldAddrN 33 rfl Tryd.underlying51 rfl Tryd.sz3 rfl) ?_
              refine R.ev rfl (E.load1 rfl Tryd.underlying3 rfl (by first | exact hs.ldc | exact hs.ld rfl | exact hs.ld (by assumption) | exact by assumption | exact At.cellC (by assumption))) ?_
              refine R.ev rfl (E.buildG (r := encO ⟨o.id, o.n, 0⟩) rfl Tryd.underlying73 Tryd.zr73 Tryd.ql73 (by kernel_rfl) (by kernel_rfl) ⟨⟨_, rfl, by first | rfl | exact vsz _ | simp [Value.cells, *]⟩, ⟨_, rfl, by first | rfl | exact vsz _ | simp [Value.cells, *]⟩, trivial⟩ (by first | rfl | simp [setF, fieldsOf, Value.cells])) ?_
              refine R.buildSliceA rfl Tryd.underlying56 Tryd.sz73 Tryd.zr73 rfl (by first | rfl | assumption | exact encV_len _ | exact Enc.len _ | simp [*]) (by decide) (by decide) ?_
              intro b66 w66 n66
              have hs := hs.new n66
              refine R.capp1 (⟨o.id, o.n, 0⟩) hs rfl rfl Tryd.underlying56 Tryd.by73 (by rfl) rfl (by first | exact hs.ldA | exact hs.ldP rfl | exact by assumption) (by decide) (by first | omega | (simp only [List.length_append, List.length_cons, List.length_nil] at *; omega)) (by first | omega | (simp only [List.length_append, List.length_cons, List.length_nil] at *; omega)) ?_
              intro v67 w67 F67 r67 hs
              first | refine R.ev rfl (E.fieldAddr0 1 rfl Tryd.underlying58 rfl Tryd.sz56 rfl) ?_ | refine R.ev rfl (E.fieldAddrN 1 rfl Tryd.underlying58 rfl Tryd.sz56 rfl) ?_
              refine R.cstore1 hs rfl rfl Tryd.sz56 (by first | decide | simp [*]) (by first | rfl | exact OneC.one | exact KRow.oneC' (by assumption)) ?_
              intro w14_10 hs
              try simp only [List.set_cons_zero, List.set_cons_succ] at hs
              have hE : offerE sz L o.id o.n = 0 := by rw [offerE, if_neg hn, h50, if_neg (by decide), if_neg h57]
              have hfin : ∀ w', Sat K w' (F67 :: Hs) → DoPost K Hs sz L o (.tuple #[.agg #[.int .i64 sz, v67], .int .i64 0, .slice none 0 0, .slice none 0 0]) w' := fun w' h => DoPost.new r67 h (by simp only [pE, hk0, hE]) (by simp only [pL, hk0, offerL, hE, if_true]) (by simp only [pS, hk0]) (by simp only [pR, hk0]) (by simp only [pD, hk0])
              refine R.done ?_
              refine X.keep [(4, _), (8, _)] ⟨rfl, rfl, trivial⟩ ?_
              refine X.blockNormal ?_
              refine X.next ?_
              refine C.seq ?_
              refine C.region ?_
              refine R.ev rfl (E.loadRowC rfl Tryd.underlying58 rfl Tryd.sz58 (by first | exact ⟨hs.ldA, by first | rfl | assumption | exact encV_len _ | exact Enc.len _ | exact len_ub (by assumption)⟩ | exact ⟨hs.ldP rfl, by first | rfl | assumption | exact encV_len _ | exact Enc.len _ | exact len_ub (by assumption)⟩ | exact ⟨hs.ldM rfl rfl, by first | rfl | assumption | exact encV_len _ | exact Enc.len _ | exact len_ub (by assumption)⟩ | exact ⟨hs.ldM (by assumption) (by first | rfl | assumption), by first | rfl | assumption | exact encV_len _ | exact Enc.len _ | exact len_ub (by assumption)⟩ | exact ⟨by assumption, by first | rfl | assumption | exact encV_len _ | exact Enc.len _ | exact len_ub (by assumption)⟩ | exact hs.ldp | exact At.partC (by assumption))) ?_
              first | refine R.cstoreAll hs rfl rfl Tryd.sz58 (by first | rfl | assumption | exact encV_len _ | exact Enc.len _ | exact len_ub (by assumption) | simp [*]) (by first | rfl | assumption | exact encV_len _ | exact Enc.len _ | exact len_ub (by assumption) | simp [*]) (by first | assumption | exact OneL.all | exact Enc.one _ | exact ub_all _ | (repeat' (first | refine List.forall_mem_cons.2 ⟨?_, ?_⟩ | exact List.forall_mem_nil _ | rfl | exact OneC.one | exact KRow.oneC' (by assumption)))) ?_ | refine R.cstore hs rfl rfl Tryd.sz58 (by first | rfl | assumption | exact encV_len _ | exact Enc.len _ | exact len_ub (by assumption) | simp [*]) (by simp [*]) (by first | assumption | exact OneL.all | exact Enc.one _ | exact ub_all _ | (repeat' (first | refine List.forall_mem_cons.2 ⟨?_, ?_⟩ | exact List.forall_mem_nil _ | rfl | exact OneC.one | exact KRow.oneC' (by assumption)))) ?_
              intro w37_1 hs
              try simp only [List.set_cons_zero, List.set_cons_succ] at hs
              refine R.ev rfl (E.assign rfl) ?_
              refine R.ev rfl (E.assign rfl) ?_
              refine R.ev rfl (E.assign rfl) ?_
              refine R.done ?_
              refine X.keep [(4, _), (5, _), (6, _), (7, _)] ⟨rfl, rfl, rfl, rfl, trivial⟩ ?_
              refine X.next ?_
              refine C.ret ?_
              refine X.resCTTT rfl rfl Tryd.underlying58 rfl Tryd.sz58 (by first | exact ⟨hs.ldA, by first | rfl | assumption | exact encV_len _ | exact Enc.len _ | exact len_ub (by assumption)⟩ | exact ⟨hs.ldP rfl, by first | rfl | assumption | exact encV_len _ | exact Enc.len _ | exact len_ub (by assumption)⟩ | exact ⟨by assumption, by first | rfl | assumption | exact encV_len _ | exact Enc.len _ | exact len_ub (by assumption)⟩) rfl rfl rfl ?_
              exact hfin _ hs.to
    · refine C.seq ?_
      refine C.region ?_
      refine R.ev rfl (E.eql rfl rfl) ?_
      refine R.ev rfl (E.assign rfl) ?_
      refine R.done ?_
      refine X.keep [(2, _), (3, _), (4, _), (8, _), (9, _), (25, _), (69, _)] ⟨rfl, rfl, rfl, rfl, rfl, rfl, rfl, trivial⟩ ?_
      refine X.next ?_
      refine C.cdec rfl (fun h69 => ?_) (fun h69 => ?_)
      · have hk0 : kd o = 1 := by omega
        refine C.seq ?_
        refine C.seq ?_
        refine C.region ?_
        refine R.ev rfl (E.move rfl) ?_
        refine R.ev rfl (E.lss rfl rfl) ?_
        refine R.done ?_
        refine X.keep [(2, _), (3, _), (4, _), (8, _), (9, _), (72, _)] ⟨rfl, rfl, rfl, rfl, rfl, rfl, trivial⟩ ?_
        refine X.next ?_
        refine C.cdec rfl (fun h72 => ?_) (fun h72 => ?_)
        · refine C.seq ?_
          refine C.region ?_
          refine R.ev rfl (E.loadRowC rfl Tryd.underlying58 rfl Tryd.sz58 (by first | exact ⟨hs.ldA, by first | rfl | assumption | exact encV_len _ | exact Enc.len _ | exact len_ub (by assumption)⟩ | exact ⟨hs.ldP rfl, by first | rfl | assumption | exact encV_len _ | exact Enc.len _ | exact len_ub (by assumption)⟩ | exact ⟨hs.ldM rfl rfl, by first | rfl | assumption | exact encV_len _ | exact Enc.len _ | exact len_ub (by assumption)⟩ | exact ⟨hs.ldM (by assumption) (by first | rfl | assumption), by first | rfl | assumption | exact encV_len _ | exact Enc.len _ | exact len_ub (by assumption)⟩ | exact ⟨by assumption, by first | rfl | assumption | exact encV_len _ | exact Enc.len _ | exact len_ub (by assumption)⟩ | exact hs.ldp | exact At.partC (by assumption))) ?_
          first | refine R.cstoreAll hs rfl rfl Tryd.sz58 (by first | rfl | assumption | exact encV_len _ | exact Enc.len _ | exact len_ub (by assumption) | simp [*]) (by first | rfl | assumption | exact encV_len _ | exact Enc.len _ | exact len_ub (by assumption) | simp [*]) (by first | assumption | exact OneL.all | exact Enc.one _ | exact ub_all _ | (repeat' (first | refine List.forall_mem_cons.2 ⟨?_, ?_⟩ | exact List.forall_mem_nil _ | rfl | exact OneC.one | exact KRow.oneC' (by assumption)))) ?_ | refine R.cstore hs rfl rfl Tryd.sz58 (by first | rfl | assumption | exact encV_len _ | exact Enc.len _ | exact len_ub (by assumption) | simp [*]) (by simp [*]) (by first | assumption | exact OneL.all | exact Enc.one _ | exact ub_all _ | (repeat' (first | refine List.forall_mem_cons.2 ⟨?_, ?_⟩ | exact List.forall_mem_nil _ | rfl | exact OneC.one | exact KRow.oneC' (by assumption)))) ?_
          intro w17_1 hs
          try simp only [List.set_cons_zero, List.set_cons_succ] at hs
          refine R.ev rfl (E.assign rfl) ?_
          refine R.ev rfl (E.assign rfl) ?_
          refine R.ev rfl (E.assign rfl) ?_
          refine R.done ?_
          refine X.keep [(4, _), (5, _), (6, _), (7, _)] ⟨rfl, rfl, rfl, rfl, trivial⟩ ?_
          refine X.next ?_
          refine C.ret ?_
          refine X.thenRet ?_
          refine X.blockRet ?_
          refine X.thenRet ?_
          refine X.resCTTT rfl rfl Tryd.underlying58 rfl Tryd.sz58 (by first | exact ⟨hs.ldA, by first | rfl | assumption | exact encV_len _ | exact Enc.len _ | exact len_ub (by assumption)⟩ | exact ⟨hs.ldP rfl, by first | rfl | assumption | exact encV_len _ | exact Enc.len _ | exact len_ub (by assumption)⟩ | exact ⟨by assumption, by first | rfl | assumption | exact encV_len _ | exact Enc.len _ | exact len_ub (by assumption)⟩) rfl rfl rfl ?_
          have hE : answerE L o.id o.n = 8 := by rw [answerE, find_no h72]
          exact DoPost.same hr hs.to (by simp only [pE, hk0, hE]) (by simp only [pL, hk0, answerL, hE]; rfl) (by simp only [pS, hk0]) (by simp only [pR, hk0]) (by simp only [pD, hk0])
        · refine C.skip ?_
          refine X.next ?_
          refine C.seq ?_
          refine C.seq ?_
          refine C.region ?_
          obtain ⟨i, oi, hi, ho, hp, hno⟩ := idxP_ge (Int.not_lt.1 h72)
          rw [hi]
          have hfi := find_at ho hp hno
          have hil := (List.getElem?_eq_some_iff.1 ho).1
          first | refine R.ev rfl (E.fieldAddr0 33 rfl Tryd.underlying51 rfl Tryd.sz3 rfl) ?_ | refine R.ev rfl (E.fieldAddrN 33 rfl Tryd.underlying51 rfl Tryd.sz3 rfl) ?_
          refine R.ev rfl (E.load1 rfl Tryd.underlying3 rfl (by first | exact hs.ldc | exact hs.ld rfl | exact hs.ld (by assumption) | exact by assumption | exact At.cellC (by assumption))) ?_
          refine R.ev rfl (E.lss rfl rfl) ?_
          refine R.ev rfl (E.move rfl) ?_
          refine R.split 77 rfl (fun h77 => ?_) (fun h77 => ?_)
          · refine R.gskip rfl rfl rfl ?_
            refine R.gskip rfl rfl rfl ?_
            refine R.gskip rfl rfl rfl ?_
            refine R.ev rfl (E.pickT rfl rfl) ?_
            refine R.done ?_
            refine X.keep [(2, _), (3, _), (4, _), (8, _), (9, _), (81, _)] ⟨rfl, rfl, rfl, rfl, rfl, rfl, trivial⟩ ?_
            refine X.next ?_
            refine C.ctrue rfl ?_
            refine C.seq ?_
            refine C.region ?_
            refine R.ev rfl (E.loadRowC rfl Tryd.underlying58 rfl Tryd.sz58 (by first | exact ⟨hs.ldA, by first | rfl | assumption | exact encV_len _ | exact Enc.len _ | exact len_ub (by assumption)⟩ | exact ⟨hs.ldP rfl, by first | rfl | assumption | exact encV_len _ | exact Enc.len _ | exact len_ub (by assumption)⟩ | exact ⟨hs.ldM rfl rfl, by first | rfl | assumption | exact encV_len _ | exact Enc.len _ | exact len_ub (by assumption)⟩ | exact ⟨hs.ldM (by assumption) (by first | rfl | assumption), by first | rfl | assumption | exact encV_len _ | exact Enc.len _ | exact len_ub (by assumption)⟩ | exact ⟨by assumption, by first | rfl | assumption | exact encV_len _ | exact Enc.len _ | exact len_ub (by assumption)⟩ | exact hs.ldp | exact At.partC (by assumption))) ?_
            first | refine R.cstoreAll hs rfl rfl Tryd.sz58 (by first | rfl | assumption | exact encV_len _ | exact Enc.len _ | exact len_ub (by assumption) | simp [*]) (by first | rfl | assumption | exact encV_len _ | exact Enc.len _ | exact len_ub (by assumption) | simp [*]) (by first | assumption | exact OneL.all | exact Enc.one _ | exact ub_all _ | (repeat' (first | refine List.forall_mem_cons.2 ⟨?_, ?_⟩ | exact List.forall_mem_nil _ | rfl | exact OneC.one | exact KRow.oneC' (by assumption)))) ?_ | refine R.cstore hs rfl rfl Tryd.sz58 (by first | rfl | assumption | exact encV_len _ | exact Enc.len _ | exact len_ub (by assumption) | simp [*]) (by simp [*]) (by first | assumption | exact OneL.all | exact Enc.one _ | exact ub_all _ | (repeat' (first | refine List.forall_mem_cons.2 ⟨?_, ?_⟩ | exact List.forall_mem_nil _ | rfl | exact OneC.one | exact KRow.oneC' (by assumption)))) ?_
            intro w19_1 hs
            try simp only [List.set_cons_zero, List.set_cons_succ] at hs
            refine R.ev rfl (E.assign rfl) ?_
            refine R.ev rfl (E.assign rfl) ?_
            refine R.ev rfl (E.assign rfl) ?_
            refine R.done ?_
            refine X.keep [(4, _), (5, _), (6, _), (7, _)] ⟨rfl, rfl, rfl, rfl, trivial⟩ ?_
            refine X.next ?_
            refine C.ret ?_
            refine X.thenRet ?_
            refine X.blockRet ?_
            refine X.thenRet ?_
            refine X.resCTTT rfl rfl Tryd.underlying58 rfl Tryd.sz58 (by first | exact ⟨hs.ldA, by first | rfl | assumption | exact encV_len _ | exact Enc.len _ | exact len_ub (by assumption)⟩ | exact ⟨hs.ldP rfl, by first | rfl | assumption | exact encV_len _ | exact Enc.len _ | exact len_ub (by assumption)⟩ | exact ⟨by assumption, by first | rfl | assumption | exact encV_len _ | exact Enc.len _ | exact len_ub (by assumption)⟩) rfl rfl rfl ?_
            have hE : answerE L o.id o.n = 11 := by simp only [answerE, hfi]; rw [if_pos]; first | (simp_all; done) | (simp_all; omega)
            exact DoPost.same hr hs.to (by simp only [pE, hk0, hE]) (by simp only [pL, hk0, answerL, hE]; rfl) (by simp only [pS, hk0]) (by simp only [pR, hk0]) (by simp only [pD, hk0])
          · refine R.gyes rfl rfl ?_
            first | refine R.ev rfl (E.fieldAddr0 33 rfl Tryd.underlying51 rfl Tryd.sz3 rfl) ?_ | refine R.ev rfl (E.fieldAddrN 33 rfl Tryd.underlying51 rfl Tryd.sz3 rfl) ?_
            refine R.gyes rfl rfl ?_
            refine R.ev rfl (E.load1 rfl Tryd.underlying3 rfl (by first | exact hs.ldc | exact hs.ld rfl | exact hs.ld (by assumption) | exact by assumption | exact At.cellC (by assumption))) ?_
            refine R.gyes rfl rfl ?_
            refine R.ev rfl (E.gtr rfl rfl) ?_
            refine R.ev rfl (E.pickF rfl rfl) ?_
            refine R.done ?_
            refine X.keep [(2, _), (3, _), (4, _), (8, _), (9, _), (81, _)] ⟨rfl, rfl, rfl, rfl, rfl, rfl, trivial⟩ ?_
            refine X.next ?_
            refine C.cbool rfl (fun h81 => ?_) (fun h81 => ?_)
            · refine C.seq ?_
              refine C.region ?_
              refine R.ev rfl (E.loadRowC rfl Tryd.underlying58 rfl Tryd.sz58 (by first | exact ⟨hs.ldA, by first | rfl | assumption | exact encV_len _ | exact Enc.len _ | exact len_ub (by assumption)⟩ | exact ⟨hs.ldP rfl, by first | rfl | assumption | exact encV_len _ | exact Enc.len _ | exact len_ub (by assumption)⟩ | exact ⟨hs.ldM rfl rfl, by first | rfl | assumption | exact encV_len _ | exact Enc.len _ | exact len_ub (by assumption)⟩ | exact ⟨hs.ldM (by assumption) (by first | rfl | assumption), by first | rfl | assumption | exact encV_len _ | exact Enc.len _ | exact len_ub (by assumption)⟩ | exact ⟨by assumption, by first | rfl | assumption | exact encV_len _ | exact Enc.len _ | exact len_ub (by assumption)⟩ | exact hs.ldp | exact At.partC (by assumption))) ?_
              first | refine R.cstoreAll hs rfl rfl Tryd.sz58 (by first | rfl | assumption | exact encV_len _ | exact Enc.len _ | exact len_ub (by assumption) | simp [*]) (by first | rfl | assumption | exact encV_len _ | exact Enc.len _ | exact len_ub (by assumption) | simp [*]) (by first | assumption | exact OneL.all | exact Enc.one _ | exact ub_all _ | (repeat' (first | refine List.forall_mem_cons.2 ⟨?_, ?_⟩ | exact List.forall_mem_nil _ | rfl | exact OneC.one | exact KRow.oneC' (by assumption)))) ?_ | refine R.cstore hs rfl rfl Tryd.sz58 (by first | rfl | assumption | exact encV_len _ | exact Enc.len _ | exact len_ub (by assumption) | simp [*]) (by simp [*]) (by first | assumption | exact OneL.all | exact Enc.one _ | exact ub_all _ | (repeat' (first | refine List.forall_mem_cons.2 ⟨?_, ?_⟩ | exact List.forall_mem_nil _ | rfl | exact OneC.one | exact KRow.oneC' (by assumption)))) ?_
              intro w19_1 hs
              try simp only [List.set_cons_zero, List.set_cons_succ] at hs
              refine R.ev rfl (E.assign rfl) ?_
              refine R.ev rfl (E.assign rfl) ?_
              refine R.ev rfl (E.assign rfl) ?_
              refine R.done ?_
              refine X.keep [(4, _), (5, _), (6, _), (7, _)] ⟨rfl, rfl, rfl, rfl, trivial⟩ ?_
              refine X.next ?_
              refine C.ret ?_
              refine X.thenRet ?_
              refine X.blockRet ?_
              refine X.thenRet ?_
              refine X.resCTTT rfl rfl Tryd.underlying58 rfl Tryd.sz58 (by first | exact ⟨hs.ldA, by first | rfl | assumption | exact encV_len _ | exact Enc.len _ | exact len_ub (by assumption)⟩ | exact ⟨hs.ldP rfl, by first | rfl | assumption | exact encV_len _ | exact Enc.len _ | exact len_ub (by assumption)⟩ | exact ⟨by assumption, by first | rfl | assumption | exact encV_len _ | exact Enc.len _ | exact len_ub (by assumption)⟩) rfl rfl rfl ?_
              have hE : answerE L o.id o.n = 11 := by simp only [answerE, hfi]; rw [if_pos]; first | (simp_all; done) | (simp_all; omega)
              exact DoPost.same hr hs.to (by simp only [pE, hk0, hE]) (by simp only [pL, hk0, answerL, hE]; rfl) (by simp only [pS, hk0]) (by simp only [pR, hk0]) (by simp only [pD, hk0])
            · refine C.skip ?_
              refine X.next ?_
              refine C.seq ?_
              refine C.seq ?_
              refine C.drawn (SatS hs) ([1, 5, 7], [0, 2, 3, 4, 6, 9]) (by kernel_rfl) ?_
              have hs := hs.drew
              have hn : ¬ (o.n < 1 ∨ 5 < o.n) := by first | (simp_all; done) | (simp_all; omega)
              obtain ⟨y, bk, off, hy, my, ly, rfl, Ay⟩ := hs.el (i := i) (ad := ad) (n := L.length) (c := cap) hil
              rw [ho] at hy
              simp only [Option.some.injEq] at hy
              subst hy
              first | refine D.evP 0 rfl (by kernel_rfl) rfl (fun _ => hs.to) (fun _ => E.fieldAddr0 1 rfl Tryd.underlying58 rfl Tryd.sz56 rfl) ?_ | refine D.evP 0 rfl (by kernel_rfl) rfl (fun _ => hs.to) (fun _ => E.fieldAddrN 1 rfl Tryd.underlying58 rfl Tryd.sz56 rfl) ?_
              refine D.evP 2 rfl (by kernel_rfl) rfl (fun _ => hs.to) (fun _ => E.move rfl) ?_
              first | refine D.evP 6 rfl (by kernel_rfl) rfl (fun _ => hs.to) (fun _ => E.fieldAddr0 33 rfl Tryd.underlying51 rfl Tryd.sz3 rfl) ?_ | refine D.evP 6 rfl (by kernel_rfl) rfl (fun _ => hs.to) (fun _ => E.fieldAddrN 33 rfl Tryd.underlying51 rfl Tryd.sz3 rfl) ?_
              refine D.ev 1 rfl (by kernel_rfl) rfl hs.to (fun _ hS => E.load1 rfl Tryd.underlying56 rfl (by first | exact hS.ldc | exact hS.ld rfl | exact hS.ld (by assumption) | exact by assumption | exact At.cellC (by assumption) | exact At.cellC ((by assumption : ∀ w', Sat _ w' _ → At w' _ _ _) _ hS) | exact (by assumption : ∀ w', Sat _ w' _ → World.cell? w' _ = some _) _ hS)) ?_
              refine D.evP 3 rfl (by kernel_rfl) rfl (fun _ => hs.to) (fun _ => E.indexAddr rfl rfl Tryd.underlying56 Tryd.sz73 rfl (by first | omega | decide)) ?_
              first | refine D.evP 4 rfl (by kernel_rfl) rfl (fun _ => hs.to) (fun _ => E.fieldAddr0 33 rfl Tryd.underlying73 rfl Tryd.sz3 rfl) ?_ | refine D.evP 4 rfl (by kernel_rfl) rfl (fun _ => hs.to) (fun _ => E.fieldAddrN 33 rfl Tryd.underlying73 rfl Tryd.sz3 rfl) ?_
              refine D.ev 5 rfl (by kernel_rfl) rfl hs.to (fun _ hS => E.load1 rfl Tryd.underlying3 rfl (by first | exact hS.ldc | exact hS.ld rfl | exact hS.ld (by assumption) | exact by assumption | exact At.cellC (by assumption) | exact At.cellC ((by assumption : ∀ w', Sat _ w' _ → At w' _ _ _) _ hS) | exact (by assumption : ∀ w', Sat _ w' _ → World.cell? w' _ = some _) _ hS)) ?_
              refine D.ev 7 rfl (by kernel_rfl) rfl hs.to (fun _ hS => E.load1 rfl Tryd.underlying3 rfl (by first | exact hS.ldc | exact hS.ld rfl | exact hS.ld (by assumption) | exact by assumption | exact At.cellC (by assumption) | exact At.cellC ((by assumption : ∀ w', Sat _ w' _ → At w' _ _ _) _ hS) | exact (by assumption : ∀ w', Sat _ w' _ → World.cell? w' _ = some _) _ hS)) ?_
              refine D.act 8 rfl (by kernel_rfl) ?_
              refine R.call ⟨_, _, Tryd.func34, rfl, by kernel_rfl⟩ rfl rfl (possible_any _ _ _) ?_
              rintro _ _ ⟨rfl, rfl⟩
              rw [possible_may _ _ hn]
              refine D.backT (by kernel_rfl) ?_
              refine D.evP 9 rfl (by kernel_rfl) rfl (np (by kernel_rfl)) (fun _ => (E.not rfl).isB (c := !(may oi.out.1 o.n.toNat)) rfl) ?_
              refine D.done rfl (by kernel_rfl) ?_
              refine X.keep [(2, _), (3, _), (4, _), (8, _), (9, _), (92, _)] ⟨rfl, rfl, rfl, rfl, rfl, rfl, trivial⟩ ?_
              refine X.next ?_
              refine C.cbool rfl (fun h92 => ?_) (fun h92 => ?_)
              · refine C.seq ?_
                refine C.region ?_
                refine R.ev rfl (E.loadRowC rfl Tryd.underlying58 rfl Tryd.sz58 (by first | exact ⟨hs.ldA, by first | rfl | assumption | exact encV_len _ | exact Enc.len _ | exact len_ub (by assumption)⟩ | exact ⟨hs.ldP rfl, by first | rfl | assumption | exact encV_len _ | exact Enc.len _ | exact len_ub (by assumption)⟩ | exact ⟨hs.ldM rfl rfl, by first | rfl | assumption | exact encV_len _ | exact Enc.len _ | exact len_ub (by assumption)⟩ | exact ⟨hs.ldM (by assumption) (by first | rfl | assumption), by first | rfl | assumption | exact encV_len _ | exact Enc.len _ | exact len_ub (by assumption)⟩ | exact ⟨by assumption, by first | rfl | assumption | exact encV_len _ | exact Enc.len _ | exact len_ub (by assumption)⟩ | exact hs.ldp | exact At.partC (by assumption))) ?_
                first | refine R.cstoreAll hs rfl rfl Tryd.sz58 (by first | rfl | assumption | exact encV_len _ | exact Enc.len _ | exact len_ub (by assumption) | simp [*]) (by first | rfl | assumption | exact encV_len _ | exact Enc.len _ | exact len_ub (by assumption) | simp [*]) (by first | assumption | exact OneL.all | exact Enc.one _ | exact ub_all _ | (repeat' (first | refine List.forall_mem_cons.2 ⟨?_, ?_⟩ | exact List.forall_mem_nil _ | rfl | exact OneC.one | exact KRow.oneC' (by assumption)))) ?_ | refine R.cstore hs rfl rfl Tryd.sz58 (by first | rfl | assumption | exact encV_len _ | exact Enc.len _ | exact len_ub (by assumption) | simp [*]) (by simp [*]) (by first | assumption | exact OneL.all | exact Enc.one _ | exact ub_all _ | (repeat' (first | refine List.forall_mem_cons.2 ⟨?_, ?_⟩ | exact List.forall_mem_nil _ | rfl | exact OneC.one | exact KRow.oneC' (by assumption)))) ?_
                intro w21_1 hs
                try simp only [List.set_cons_zero, List.set_cons_succ] at hs
                refine R.ev rfl (E.assign rfl) ?_
                refine R.ev rfl (E.assign rfl) ?_
                refine R.ev rfl (E.assign rfl) ?_
                refine R.done ?_
                refine X.keep [(4, _), (5, _), (6, _), (7, _)] ⟨rfl, rfl, rfl, rfl, trivial⟩ ?_
                refine X.next ?_
                refine C.ret ?_
                refine X.thenRet ?_
                refine X.blockRet ?_
                refine X.thenRet ?_
                refine X.resCTTT rfl rfl Tryd.underlying58 rfl Tryd.sz58 (by first | exact ⟨hs.ldA, by first | rfl | assumption | exact encV_len _ | exact Enc.len _ | exact len_ub (by assumption)⟩ | exact ⟨hs.ldP rfl, by first | rfl | assumption | exact encV_len _ | exact Enc.len _ | exact len_ub (by assumption)⟩ | exact ⟨by assumption, by first | rfl | assumption | exact encV_len _ | exact Enc.len _ | exact len_ub (by assumption)⟩) rfl rfl rfl ?_
                have hE : answerE L o.id o.n = 10 := by simp only [answerE, hfi]; rw [if_neg hn, if_neg]; simpa using h92
                exact DoPost.same hr hs.to (by simp only [pE, hk0, hE]) (by simp only [pL, hk0, answerL, hE]; rfl) (by simp only [pS, hk0]) (by simp only [pR, hk0]) (by simp only [pD, hk0])
              · refine C.skip ?_
                refine X.next ?_
                refine C.region ?_
                obtain ⟨ad2, cap2, rfl, hc2, _, had2⟩ := r17.val
                obtain ⟨b22, rfl⟩ := had2 (by intro e; rw [e] at hil; simp at hil)
                first | refine R.ev rfl (E.fieldAddr0 1 rfl Tryd.underlying58 rfl Tryd.sz56 rfl) ?_ | refine R.ev rfl (E.fieldAddrN 1 rfl Tryd.underlying58 rfl Tryd.sz56 rfl) ?_
                refine R.ev rfl (E.load1 rfl Tryd.underlying56 rfl (by first | exact hs.ldc | exact hs.ld rfl | exact hs.ld (by assumption) | exact by assumption | exact At.cellC (by assumption))) ?_
                refine R.ev rfl (E.move rfl) ?_
                first | refine R.ev rfl (E.fieldAddr0 33 rfl Tryd.underlying51 rfl Tryd.sz3 rfl) ?_ | refine R.ev rfl (E.fieldAddrN 33 rfl Tryd.underlying51 rfl Tryd.sz3 rfl) ?_
                refine R.ev rfl (E.load1 rfl Tryd.underlying3 rfl (by first | exact hs.ldc | exact hs.ld rfl | exact hs.ld (by assumption) | exact by assumption | exact At.cellC (by assumption))) ?_
                refine R.ev rfl (E.indexAddr rfl rfl Tryd.underlying56 Tryd.sz73 rfl (by first | omega | decide)) ?_
                first | refine R.ev rfl (E.fieldAddr0 33 rfl Tryd.underlying73 rfl Tryd.sz3 rfl) ?_ | refine R.ev rfl (E.fieldAddrN 33 rfl Tryd.underlying73 rfl Tryd.sz3 rfl) ?_
                refine R.ssetF (el' := { oi with out := Fin.ofNat 6 o.n.toNat }) i (hs.front (F := F17)) r17 rfl rfl Tryd.sz3 ho ?_ (off := 33) (by omega) (by decide) rfl ?_
                · have : ((Fin.ofNat 6 o.n.toNat).1 : Int) = o.n := by simp [Fin.ofNat]; omega
                  simp only [encO, this]
                  rw [List.set_append_right _ _ (by simp [oi.id.2])]
                  simp [oi.id.2]
                intro w22 F22 r22 hs1
                have hs := hs.back (F := F17) hs1
                have hE : answerE L o.id o.n = 0 := by simp only [answerE, hfi]; rw [if_neg hn, if_pos]; simpa using h92
                have hfin : ∀ w', Sat K w' (F22 :: Hs) → DoPost K Hs sz L o (.tuple #[.agg #[.int .i64 sz, .slice (some ⟨b22, 0, none⟩) L.length cap2], .int .i64 0, .slice none 0 0, .slice none 0 0]) w' := fun w' h => DoPost.new r22 h (by simp only [pE, hk0, hE]) (by simp only [pL, hk0, answerL, hE, if_true]; rw [setOut_at ho hp hno]) (by simp only [pS, hk0]) (by simp only [pR, hk0]) (by simp only [pD, hk0])
                refine R.done ?_
                refine X.keep [(4, _), (8, _)] ⟨rfl, rfl, trivial⟩ ?_
                refine X.blockNormal ?_
                refine X.next ?_
                refine C.seq ?_
                refine C.region ?_
                refine R.ev rfl (E.loadRowC rfl Tryd.underlying58 rfl Tryd.sz58 (by first | exact ⟨hs.ldA, by first | rfl | assumption | exact encV_len _ | exact Enc.len _ | exact len_ub (by assumption)⟩ | exact ⟨hs.ldP rfl, by first | rfl | assumption | exact encV_len _ | exact Enc.len _ | exact len_ub (by assumption)⟩ | exact ⟨hs.ldM rfl rfl, by first | rfl | assumption | exact encV_len _ | exact Enc.len _ | exact len_ub (by assumption)⟩ | exact ⟨hs.ldM (by assumption) (by first | rfl | assumption), by first | rfl | assumption | exact encV_len _ | exact Enc.len _ | exact len_ub (by assumption)⟩ | exact ⟨by assumption, by first | rfl | assumption | exact encV_len _ | exact Enc.len _ | exact len_ub (by assumption)⟩ | exact hs.ldp | exact At.partC (by assumption))) ?_
                first | refine R.cstoreAll hs rfl rfl Tryd.sz58 (by first | rfl | assumption | exact encV_len _ | exact Enc.len _ | exact len_ub (by assumption) | simp [*]) (by first | rfl | assumption | exact encV_len _ | exact Enc.len _ | exact len_ub (by assumption) | simp [*]) (by first | assumption | exact OneL.all | exact Enc.one _ | exact ub_all _ | (repeat' (first | refine List.forall_mem_cons.2 ⟨?_, ?_⟩ | exact List.forall_mem_nil _ | rfl | exact OneC.one | exact KRow.oneC' (by assumption)))) ?_ | refine R.cstore hs rfl rfl Tryd.sz58 (by first | rfl | assumption | exact encV_len _ | exact Enc.len _ | exact len_ub (by assumption) | simp [*]) (by simp [*]) (by first | assumption | exact OneL.all | exact Enc.one _ | exact ub_all _ | (repeat' (first | refine List.forall_mem_cons.2 ⟨?_, ?_⟩ | exact List.forall_mem_nil _ | rfl | exact OneC.one | exact KRow.oneC' (by assumption)))) ?_
                intro w37_1 hs
                try simp only [List.set_cons_zero, List.set_cons_succ] at hs
                refine R.ev rfl (E.assign rfl) ?_
                refine R.ev rfl (E.assign rfl) ?_
                refine R.ev rfl (E.assign rfl) ?_
                refine R.done ?_
                refine X.keep [(4, _), (5, _), (6, _), (7, _)] ⟨rfl, rfl, rfl, rfl, trivial⟩ ?_
                refine X.next ?_
                refine C.ret ?_
                refine X.resCTTT rfl rfl Tryd.underlying58 rfl Tryd.sz58 (by first | exact ⟨hs.ldA, by first | rfl | assumption | exact encV_len _ | exact Enc.len _ | exact len_ub (by assumption)⟩ | exact ⟨hs.ldP rfl, by first | rfl | assumption | exact encV_len _ | exact Enc.len _ | exact len_ub (by assumption)⟩ | exact ⟨by assumption, by first | rfl | assumption | exact encV_len _ | exact Enc.len _ | exact len_ub (by assumption)⟩) rfl rfl rfl ?_
                exact hfin _ hs.to
      · refine C.seq ?_
        refine C.region ?_
        refine R.ev rfl (E.eql rfl rfl) ?_
        refine R.ev rfl (E.assign rfl) ?_
        refine R.done ?_
        refine X.keep [(2, _), (3, _), (4, _), (8, _), (25, _), (101, _)] ⟨rfl, rfl, rfl, rfl, rfl, rfl, trivial⟩ ?_
        refine X.next ?_
        refine C.cdec rfl (fun h101 => ?_) (fun h101 => ?_)
        · have hk0 : kd o = 2 := by omega
          obtain ⟨ad2, cap2, rfl, hc2, _, had2⟩ := r17.val
          obtain ⟨K1, hk1, r1, hs⟩ := r17.freezeK (hs.front (F := F17))
          obtain ⟨_, _, he, hsl2, _⟩ := r1.ex
          simp only [Value.slice.injEq] at he
          obtain ⟨rfl, _, rfl⟩ := he
          refine C.seq ?_
          refine C.region ?_
          refine R.ev rfl (E.assign rfl) ?_
          refine R.done ?_
          refine X.keep [(4, _), (8, _), (10, _)] ⟨rfl, rfl, rfl, trivial⟩ ?_
          refine X.next ?_
          refine C.seq ?_
          refine C.block ?_
          refine C.loop (T := Nat × Value × Hl × Option Addr) [(4, _), (8, _)] (fun (_, v, _, _) => [(10, v)]) (fun (k, v, F', adk) w' => k ≤ L.length ∧ RowL 43 encR 33 v ((L.take k).map resO) F' ∧ KSl encO 34 K1 adk (L.length - k) (L.drop k) ∧ (∀ j, j < k → ∀ y, L[j]? = some y → y.outs = false) ∧ Sat K1 w' (F' :: row b8 58 [.int .i64 sz, .slice adk (L.length - k) (cap2 - k)] :: row b4 58 [.int .i64 0, .slice none 0 0] :: row b3 51 (encP o) :: row b2 58 [.int .i64 sz, .slice ad L.length cap] :: Hs)) (fun (k, _) => L.length - k) ((0, .slice none 0 0, [], ad2)) ⟨rfl, rfl, rfl, trivial⟩ ⟨by omega, RowL.nil _ _ _, by simpa using hsl2, (fun j h => by omega), hs.nil⟩ ?_
          rintro ⟨k, v, F', adk⟩ w1 ⟨hk, r1, hslk, hno, hs⟩
          have hlen : ((L.take k).map resO).length ≤ 1000000 := by simp; omega
          have hkr : KRow encO 34 K1 (.slice adk (L.length - k) (cap2 - k)) (L.drop k) := ⟨_, _, by rw [List.length_drop], by rw [List.length_drop]; exact hslk, by rw [List.length_drop]; omega⟩
          refine C.keep [(4, _), (8, _), (10, _)] ⟨rfl, rfl, rfl, trivial⟩ ?_
          refine C.seq ?_
          refine C.seq ?_
          refine C.region ?_
          first | refine R.ev rfl (E.fieldAddr0 1 rfl Tryd.underlying58 rfl Tryd.sz56 rfl) ?_ | refine R.ev rfl (E.fieldAddrN 1 rfl Tryd.underlying58 rfl Tryd.sz56 rfl) ?_
          refine R.ev rfl (E.load1 rfl Tryd.underlying56 rfl (by first | exact hs.ldc | exact hs.ld rfl | exact hs.ld (by assumption) | exact by assumption | exact At.cellC (by assumption))) ?_
          refine R.ev rfl (E.lenSl rfl Tryd.underlying56) ?_
          refine R.ev rfl ((E.gtr rfl rfl).isB (c := decide (k < L.length)) (by rw [Bool.eq_iff_iff]; simp; omega)) ?_
          refine R.ev rfl ((E.move rfl)) ?_
          refine R.split 107 rfl (fun h107 => ?_) (fun h107 => ?_)
          · refine R.gyes rfl rfl ?_
            have hkl : k < L.length := by simpa using h107
            obtain ⟨y, bk, off, hy, my, ly, rfl, Ay⟩ := hs.el (i := 0) (ad := adk) (n := L.length - k) (c := cap2 - k) (by omega)
            simp only [Nat.zero_mul, Nat.add_zero] at Ay
            rw [List.getElem?_drop, Nat.add_zero] at hy
            have ay := Ay _ hs
            first | refine R.ev rfl (E.fieldAddr0 1 rfl Tryd.underlying58 rfl Tryd.sz56 rfl) ?_ | refine R.ev rfl (E.fieldAddrN 1 rfl Tryd.underlying58 rfl Tryd.sz56 rfl) ?_
            refine R.gyes rfl rfl ?_
            refine R.ev rfl (E.load1 rfl Tryd.underlying56 rfl (by first | exact hs.ldc | exact hs.ld rfl | exact hs.ld (by assumption) | exact by assumption | exact At.cellC (by assumption))) ?_
            refine R.gyes rfl rfl ?_
            refine R.ev rfl ((E.indexAddr (i := 0) rfl rfl Tryd.underlying56 Tryd.sz73 rfl (by omega)).as (u := .pointer (some ⟨bk, off, none⟩)) (by simp)) ?_
            refine R.gyes rfl rfl ?_
            first | refine R.ev rfl (E.fieldAddr0 33 rfl Tryd.underlying73 rfl Tryd.sz3 rfl) ?_ | refine R.ev rfl (E.fieldAddrN 33 rfl Tryd.underlying73 rfl Tryd.sz3 rfl) ?_
            refine R.gyes rfl rfl ?_
            refine R.ev rfl (E.load1 rfl Tryd.underlying3 rfl (by first | exact hs.ldc | exact hs.ld rfl | exact hs.ld (by assumption) | exact by assumption | exact At.cellC (by assumption))) ?_
            refine R.gyes rfl rfl ?_
            refine R.ev rfl ((E.geq rfl rfl).isB (c := !y.outs) (by simp only [Off.outs]; rw [Bool.eq_iff_iff]; simp; omega)) ?_
            refine R.ev rfl (E.pickT rfl rfl) ?_
            refine R.done ?_
            refine X.keep [(4, _), (8, _), (10, _), (114, _)] ⟨rfl, rfl, rfl, rfl, trivial⟩ ?_
            refine X.next ?_
            refine C.cbool rfl (fun h114 => ?_) (fun h114 => ?_)
            · refine C.skip ?_
              refine X.next ?_
              refine C.block ?_
              refine C.seq ?_
              refine C.drawn (SatS hs) ([2, 5, 7, 10], [0, 1, 3, 4, 6, 8, 9, 11, 14]) (by kernel_rfl) ?_
              have hs := hs.drew
              refine D.evP 0 rfl (by kernel_rfl) rfl (fun _ => hs.to) (fun _ => E.move rfl) ?_
              first | refine D.evP 1 rfl (by kernel_rfl) rfl (fun _ => hs.to) (fun _ => E.fieldAddr0 1 rfl Tryd.underlying58 rfl Tryd.sz56 rfl) ?_ | refine D.evP 1 rfl (by kernel_rfl) rfl (fun _ => hs.to) (fun _ => E.fieldAddrN 1 rfl Tryd.underlying58 rfl Tryd.sz56 rfl) ?_
              first | refine D.evP 6 rfl (by kernel_rfl) rfl (fun _ => hs.to) (fun _ => E.fieldAddr0 1 rfl Tryd.underlying58 rfl Tryd.sz56 rfl) ?_ | refine D.evP 6 rfl (by kernel_rfl) rfl (fun _ => hs.to) (fun _ => E.fieldAddrN 1 rfl Tryd.underlying58 rfl Tryd.sz56 rfl) ?_
              refine D.ev 2 rfl (by kernel_rfl) rfl hs.to (fun _ hS => E.load1 rfl Tryd.underlying56 rfl (by first | exact hS.ldc | exact hS.ld rfl | exact hS.ld (by assumption) | exact by assumption | exact At.cellC (by assumption) | exact At.cellC ((by assumption : ∀ w', Sat _ w' _ → At w' _ _ _) _ hS) | exact (by assumption : ∀ w', Sat _ w' _ → World.cell? w' _ = some _) _ hS)) ?_
              refine D.evP 3 rfl (by kernel_rfl) rfl (fun _ => hs.to) (fun _ => (E.indexAddr (i := 0) rfl rfl Tryd.underlying56 Tryd.sz73 rfl (by omega)).as (u := .pointer (some ⟨bk, off, none⟩)) (by simp)) ?_
              first | refine D.evP 4 rfl (by kernel_rfl) rfl (fun _ => hs.to) (fun _ => E.fieldAddr0 0 rfl Tryd.underlying73 rfl Tryd.sz37 rfl) ?_ | refine D.evP 4 rfl (by kernel_rfl) rfl (fun _ => hs.to) (fun _ => E.fieldAddrN 0 rfl Tryd.underlying73 rfl Tryd.sz37 rfl) ?_
              refine D.ev 5 rfl (by kernel_rfl) rfl hs.to (fun _ hS => E.loadRowC rfl Tryd.underlying37 rfl Tryd.sz37 (by first | exact ⟨hS.ldA, by first | rfl | assumption | exact encV_len _ | exact Enc.len _ | exact len_ub (by assumption)⟩ | exact ⟨hS.ldP rfl, by first | rfl | assumption | exact encV_len _ | exact Enc.len _ | exact len_ub (by assumption)⟩ | exact ⟨hS.ldM rfl rfl, by first | rfl | assumption | exact encV_len _ | exact Enc.len _ | exact len_ub (by assumption)⟩ | exact ⟨hS.ldM (by assumption) (by first | rfl | assumption), by first | rfl | assumption | exact encV_len _ | exact Enc.len _ | exact len_ub (by assumption)⟩ | exact ⟨by assumption, by first | rfl | assumption | exact encV_len _ | exact Enc.len _ | exact len_ub (by assumption)⟩ | exact ⟨(by assumption : ∀ w', Sat _ w' _ → At w' _ _ _) _ hS, by first | rfl | assumption | exact encV_len _ | exact Enc.len _ | exact len_ub (by assumption)⟩ | exact hS.ldp | exact At.partC (by assumption) | exact At.partC ((by assumption : ∀ w', Sat _ w' _ → At w' _ _ _) _ hS))) ?_
              refine D.ev 7 rfl (by kernel_rfl) rfl hs.to (fun _ hS => E.load1 rfl Tryd.underlying56 rfl (by first | exact hS.ldc | exact hS.ld rfl | exact hS.ld (by assumption) | exact by assumption | exact At.cellC (by assumption) | exact At.cellC ((by assumption : ∀ w', Sat _ w' _ → At w' _ _ _) _ hS) | exact (by assumption : ∀ w', Sat _ w' _ → World.cell? w' _ = some _) _ hS)) ?_
              refine D.evP 8 rfl (by kernel_rfl) rfl (fun _ => hs.to) (fun _ => (E.indexAddr (i := 0) rfl rfl Tryd.underlying56 Tryd.sz73 rfl (by omega)).as (u := .pointer (some ⟨bk, off, none⟩)) (by simp)) ?_
              first | refine D.evP 9 rfl (by kernel_rfl) rfl (fun _ => hs.to) (fun _ => E.fieldAddr0 33 rfl Tryd.underlying73 rfl Tryd.sz3 rfl) ?_ | refine D.evP 9 rfl (by kernel_rfl) rfl (fun _ => hs.to) (fun _ => E.fieldAddrN 33 rfl Tryd.underlying73 rfl Tryd.sz3 rfl) ?_
              refine D.ev 10 rfl (by kernel_rfl) rfl hs.to (fun _ hS => E.load1 rfl Tryd.underlying3 rfl (by first | exact hS.ldc | exact hS.ld rfl | exact hS.ld (by assumption) | exact by assumption | exact At.cellC (by assumption) | exact At.cellC ((by assumption : ∀ w', Sat _ w' _ → At w' _ _ _) _ hS) | exact (by assumption : ∀ w', Sat _ w' _ → World.cell? w' _ = some _) _ hS)) ?_
              refine D.evP 11 rfl (by kernel_rfl) rfl (fun _ => hs.to) (fun _ => E.buildG (r := encR (resO y)) rfl Tryd.underlying43 Tryd.zr43 Tryd.ql43 (by kernel_rfl) (by kernel_rfl) ⟨⟨_, rfl, by first | rfl | exact vsz _ | simp [Value.cells, *]⟩, ⟨_, rfl, by first | rfl | exact vsz _ | simp [Value.cells, *]⟩, trivial⟩ (by first | rfl | simp [setF, fieldsOf, Value.cells])) ?_
              refine D.act 12 rfl (by kernel_rfl) ?_
              refine R.buildSliceA rfl Tryd.underlying30 Tryd.sz43 Tryd.zr43 rfl (by first | rfl | assumption | exact encV_len _ | exact Enc.len _ | simp [*]) (by decide) (by decide) ?_
              intro b127 w127 n127
              have hs := hs.new n127
              refine D.backT (by kernel_rfl) ?_
              refine D.act 13 rfl (by kernel_rfl) ?_
              refine R.capp1 ((resO y)) hs rfl rfl Tryd.underlying30 Tryd.by43 (by rfl) rfl (by first | exact hs.ldA | exact hs.ldP rfl | exact by assumption) (by decide) (by first | omega | (simp only [List.length_append, List.length_cons, List.length_nil] at *; omega)) (by first | omega | (simp only [List.length_append, List.length_cons, List.length_nil] at *; omega)) ?_
              intro v128 w128 F128 r128 hs
              refine D.backT (by kernel_rfl) ?_
              refine D.evP 14 rfl (by kernel_rfl) rfl (np (by kernel_rfl)) (fun _ => E.assign rfl) ?_
              refine D.done rfl (by kernel_rfl) ?_
              refine X.keep [(4, _), (8, _), (10, _)] ⟨rfl, rfl, rfl, trivial⟩ ?_
              refine X.next ?_
              refine C.region ?_
              first | refine R.ev rfl (E.fieldAddr0 1 rfl Tryd.underlying58 rfl Tryd.sz56 rfl) ?_ | refine R.ev rfl (E.fieldAddrN 1 rfl Tryd.underlying58 rfl Tryd.sz56 rfl) ?_
              refine R.ev rfl (E.load1 rfl Tryd.underlying56 rfl (by first | exact hs.ldc | exact hs.ld rfl | exact hs.ld (by assumption) | exact by assumption | exact At.cellC (by assumption))) ?_
              refine R.ev rfl (E.sliceLs (a := 1) rfl rfl Tryd.underlying56 Tryd.sz73 rfl (by omega)) ?_
              first | refine R.ev rfl (E.fieldAddr0 1 rfl Tryd.underlying58 rfl Tryd.sz56 rfl) ?_ | refine R.ev rfl (E.fieldAddrN 1 rfl Tryd.underlying58 rfl Tryd.sz56 rfl) ?_
              refine R.cstore1 hs rfl rfl Tryd.sz56 (by first | decide | simp [*]) (by first | rfl | exact OneC.one | exact KRow.oneC' (by assumption)) ?_
              intro w27_4 hs
              try simp only [List.set_cons_zero, List.set_cons_succ] at hs
              refine R.done ?_
              refine X.keep [(4, _), (8, _), (10, _)] ⟨rfl, rfl, rfl, trivial⟩ ?_
              refine X.blockNormal ?_
              have ho : y.outs = false := by simpa using h114
              have hsl3 := hslk.tail (a := 1) (cap := cap2 - k) (by omega) (by omega)
              rw [List.drop_drop, Nat.sub_sub] at hsl3
              rw [Nat.sub_sub, Nat.sub_sub] at hs
              exact X.again (k + 1, v128, F128, _) ⟨rfl, rfl, rfl, trivial⟩ ⟨by omega, by rw [take_snoc hy, List.map_append]; exact r128, hsl3, idxP_step (p := Off.outs) hy ho hno, hs.to⟩ (by show _ - _ < _ - _; omega)
            · refine C.exit ?_
              refine X.thenExit ?_
              refine X.loopExit ?_
              refine X.blockExit ?_
              refine X.next ?_
              refine C.seq ?_
              refine C.region ?_
              refine R.ev rfl (E.loadRowC rfl Tryd.underlying58 rfl Tryd.sz58 (by first | exact ⟨hs.ldA, by first | rfl | assumption | exact encV_len _ | exact Enc.len _ | exact len_ub (by assumption)⟩ | exact ⟨hs.ldP rfl, by first | rfl | assumption | exact encV_len _ | exact Enc.len _ | exact len_ub (by assumption)⟩ | exact ⟨hs.ldM rfl rfl, by first | rfl | assumption | exact encV_len _ | exact Enc.len _ | exact len_ub (by assumption)⟩ | exact ⟨hs.ldM (by assumption) (by first | rfl | assumption), by first | rfl | assumption | exact encV_len _ | exact Enc.len _ | exact len_ub (by assumption)⟩ | exact ⟨by assumption, by first | rfl | assumption | exact encV_len _ | exact Enc.len _ | exact len_ub (by assumption)⟩ | exact hs.ldp | exact At.partC (by assumption))) ?_
              refine R.ev rfl (E.move rfl) ?_
              first | refine R.cstoreAll hs rfl rfl Tryd.sz58 (by first | rfl | assumption | exact encV_len _ | exact Enc.len _ | exact len_ub (by assumption) | simp [*]) (by first | rfl | assumption | exact encV_len _ | exact Enc.len _ | exact len_ub (by assumption) | simp [*]) (by first | assumption | exact OneL.all | exact Enc.one _ | exact ub_all _ | (repeat' (first | refine List.forall_mem_cons.2 ⟨?_, ?_⟩ | exact List.forall_mem_nil _ | rfl | exact OneC.one | exact KRow.oneC' (by assumption)))) ?_ | refine R.cstore hs rfl rfl Tryd.sz58 (by first | rfl | assumption | exact encV_len _ | exact Enc.len _ | exact len_ub (by assumption) | simp [*]) (by simp [*]) (by first | assumption | exact OneL.all | exact Enc.one _ | exact ub_all _ | (repeat' (first | refine List.forall_mem_cons.2 ⟨?_, ?_⟩ | exact List.forall_mem_nil _ | rfl | exact OneC.one | exact KRow.oneC' (by assumption)))) ?_
              intro w28_2 hs
              try simp only [List.set_cons_zero, List.set_cons_succ] at hs
              refine R.ev rfl (E.assign rfl) ?_
              refine R.ev rfl (E.assign rfl) ?_
              refine R.ev rfl (E.assign rfl) ?_
              refine R.done ?_
              refine X.keep [(4, _), (5, _), (6, _), (7, _)] ⟨rfl, rfl, rfl, rfl, trivial⟩ ?_
              refine X.next ?_
              refine C.ret ?_
              refine X.blockRet ?_
              refine X.thenRet ?_
              refine X.resCTTT rfl rfl Tryd.underlying58 rfl Tryd.sz58 (by first | exact ⟨hs.ldA, by first | rfl | assumption | exact encV_len _ | exact Enc.len _ | exact len_ub (by assumption)⟩ | exact ⟨hs.ldP rfl, by first | rfl | assumption | exact encV_len _ | exact Enc.len _ | exact len_ub (by assumption)⟩ | exact ⟨by assumption, by first | rfl | assumption | exact encV_len _ | exact Enc.len _ | exact len_ub (by assumption)⟩) rfl rfl rfl ?_
              have hN : ∀ y, L[k]? = some y → y.outs = true := by
                intro z hz
                have hlt := (List.getElem?_eq_some_iff.1 hz).1
                first
                  | (rw [hy] at hz; simp only [Option.some.injEq] at hz; subst hz; simpa using h114)
                  | (exfalso; simp at h107; omega)
              obtain ⟨hf1, hf2⟩ := take_fin hno hk hN
              obtain ⟨K2, hk2, r2, hs⟩ := r1.freezeK (hs.front (F := F'))
              have hgo : ∀ v', KRow encO 34 K2 v' (L.drop k) → DoPost K Hs sz L o (.tuple #[.agg #[.int .i64 sz, v'], .int .i64 0, v, .slice none 0 0]) w28_2 := fun v' hv' => ⟨K2, v', v, .slice none 0 0, by simp only [pS, pE, hk0], hk1.trans hk2, by simp only [pL, hk0, hf2]; exact hv', by simp only [pR, hk0, hf1]; exact r2, by simp only [pD, hk0]; exact KRow.nil, hs.to⟩
              exact hgo _ KRow.mono
          · refine R.gskip rfl rfl rfl ?_
            refine R.gskip rfl rfl rfl ?_
            refine R.gskip rfl rfl rfl ?_
            refine R.gskip rfl rfl rfl ?_
            refine R.gskip rfl rfl rfl ?_
            refine R.gskip rfl rfl rfl ?_
            refine R.ev rfl (E.pickF rfl rfl) ?_
            refine R.done ?_
            refine X.keep [(4, _), (8, _), (10, _), (114, _)] ⟨rfl, rfl, rfl, rfl, trivial⟩ ?_
            refine X.next ?_
            refine C.cfalse rfl ?_
            refine C.exit ?_
            refine X.thenExit ?_
            refine X.loopExit ?_
            refine X.blockExit ?_
            refine X.next ?_
            refine C.seq ?_
            refine C.region ?_
            refine R.ev rfl (E.loadRowC rfl Tryd.underlying58 rfl Tryd.sz58 (by first | exact ⟨hs.ldA, by first | rfl | assumption | exact encV_len _ | exact Enc.len _ | exact len_ub (by assumption)⟩ | exact ⟨hs.ldP rfl, by first | rfl | assumption | exact encV_len _ | exact Enc.len _ | exact len_ub (by assumption)⟩ | exact ⟨hs.ldM rfl rfl, by first | rfl | assumption | exact encV_len _ | exact Enc.len _ | exact len_ub (by assumption)⟩ | exact ⟨hs.ldM (by assumption) (by first | rfl | assumption), by first | rfl | assumption | exact encV_len _ | exact Enc.len _ | exact len_ub (by assumption)⟩ | exact ⟨by assumption, by first | rfl | assumption | exact encV_len _ | exact Enc.len _ | exact len_ub (by assumption)⟩ | exact hs.ldp | exact At.partC (by assumption))) ?_
            refine R.ev rfl (E.move rfl) ?_
            first | refine R.cstoreAll hs rfl rfl Tryd.sz58 (by first | rfl | assumption | exact encV_len _ | exact Enc.len _ | exact len_ub (by assumption) | simp [*]) (by first | rfl | assumption | exact encV_len _ | exact Enc.len _ | exact len_ub (by assumption) | simp [*]) (by first | assumption | exact OneL.all | exact Enc.one _ | exact ub_all _ | (repeat' (first | refine List.forall_mem_cons.2 ⟨?_, ?_⟩ | exact List.forall_mem_nil _ | rfl | exact OneC.one | exact KRow.oneC' (by assumption)))) ?_ | refine R.cstore hs rfl rfl Tryd.sz58 (by first | rfl | assumption | exact encV_len _ | exact Enc.len _ | exact len_ub (by assumption) | simp [*]) (by simp [*]) (by first | assumption | exact OneL.all | exact Enc.one _ | exact ub_all _ | (repeat' (first | refine List.forall_mem_cons.2 ⟨?_, ?_⟩ | exact List.forall_mem_nil _ | rfl | exact OneC.one | exact KRow.oneC' (by assumption)))) ?_
            intro w28_2 hs
            try simp only [List.set_cons_zero, List.set_cons_succ] at hs
            refine R.ev rfl (E.assign rfl) ?_
            refine R.ev rfl (E.assign rfl) ?_
            refine R.ev rfl (E.assign rfl) ?_
            refine R.done ?_
            refine X.keep [(4, _), (5, _), (6, _), (7, _)] ⟨rfl, rfl, rfl, rfl, trivial⟩ ?_
            refine X.next ?_
            refine C.ret ?_
            refine X.blockRet ?_
            refine X.thenRet ?_
            refine X.resCTTT rfl rfl Tryd.underlying58 rfl Tryd.sz58 (by first | exact ⟨hs.ldA, by first | rfl | assumption | exact encV_len _ | exact Enc.len _ | exact len_ub (by assumption)⟩ | exact ⟨hs.ldP rfl, by first | rfl | assumption | exact encV_len _ | exact Enc.len _ | exact len_ub (by assumption)⟩ | exact ⟨by assumption, by first | rfl | assumption | exact encV_len _ | exact Enc.len _ | exact len_ub (by assumption)⟩) rfl rfl rfl ?_
            have hN : ∀ y, L[k]? = some y → y.outs = true := by
              intro z hz
              have hlt := (List.getElem?_eq_some_iff.1 hz).1
              first
                | (rw [hy] at hz; simp only [Option.some.injEq] at hz; subst hz; simpa using h114)
                | (exfalso; simp at h107; omega)
            obtain ⟨hf1, hf2⟩ := take_fin hno hk hN
            obtain ⟨K2, hk2, r2, hs⟩ := r1.freezeK (hs.front (F := F'))
            have hgo : ∀ v', KRow encO 34 K2 v' (L.drop k) → DoPost K Hs sz L o (.tuple #[.agg #[.int .i64 sz, v'], .int .i64 0, v, .slice none 0 0]) w28_2 := fun v' hv' => ⟨K2, v', v, .slice none 0 0, by simp only [pS, pE, hk0], hk1.trans hk2, by simp only [pL, hk0, hf2]; exact hv', by simp only [pR, hk0, hf1]; exact r2, by simp only [pD, hk0]; exact KRow.nil, hs.to⟩
            exact hgo _ KRow.mono
        · refine C.seq ?_
          refine C.region ?_
          refine R.ev rfl (E.eql rfl rfl) ?_
          refine R.ev rfl (E.assign rfl) ?_
          refine R.done ?_
          refine X.keep [(2, _), (3, _), (4, _), (8, _), (135, _)] ⟨rfl, rfl, rfl, rfl, rfl, trivial⟩ ?_
          refine X.next ?_
          refine C.cdec rfl (fun h135 => ?_) (fun h135 => ?_)
          · have hk0 : kd o = 3 := by omega
            refine C.seq ?_
            refine C.region ?_
            first | refine R.ev rfl (E.fieldAddr0 1 rfl Tryd.underlying58 rfl Tryd.sz56 rfl) ?_ | refine R.ev rfl (E.fieldAddrN 1 rfl Tryd.underlying58 rfl Tryd.sz56 rfl) ?_
            refine R.cstore1 hs rfl rfl Tryd.sz56 (by first | decide | simp [*]) (by first | rfl | exact OneC.one | exact KRow.oneC' (by assumption)) ?_
            intro w30_1 hs
            try simp only [List.set_cons_zero, List.set_cons_succ] at hs
            refine R.done ?_
            refine X.keep [(2, _), (4, _), (8, _)] ⟨rfl, rfl, rfl, trivial⟩ ?_
            refine X.next ?_
            refine C.seq ?_
            refine C.seq ?_
            refine C.region ?_
            refine R.ev rfl (E.assign rfl) ?_
            refine R.done ?_
            refine X.keep [(2, _), (4, _), (8, _), (11, _)] ⟨rfl, rfl, rfl, rfl, trivial⟩ ?_
            refine X.next ?_
            refine C.block ?_
            refine C.loop (T := Nat × Value × Hl) [(2, _), (4, _), (8, _)] (fun (k, _, _) => [(11, .int .i64 (k : Nat))]) (fun (k, v, F') w' => k ≤ L.length ∧ RowL 73 encO 34 v (filtL (L.take k)) F' ∧ Sat K w' (F' :: row b8 58 [.int .i64 sz, v] :: row b4 58 [.int .i64 0, .slice none 0 0] :: row b2 58 [.int .i64 sz, .slice ad L.length cap] :: Hs)) (fun (k, _) => L.length - k) ((0, .slice none 0 0, [])) ⟨rfl, rfl, rfl, rfl, trivial⟩ ⟨by omega, RowL.nil _ _ _, hs.nil.to⟩ ?_
            rintro ⟨k, v, F'⟩ w1 ⟨hk, r1, hs⟩
            have hlen : (filtL (L.take k)).length ≤ 1000000 := by have := List.length_filter_le (fun o : Off => !o.outs) (L.take k); simp at this; unfold filtL; omega
            refine C.keep [(2, _), (4, _), (8, _), (11, _)] ⟨rfl, rfl, rfl, rfl, trivial⟩ ?_
            refine C.seq ?_
            refine C.seq ?_
            refine C.region ?_
            refine R.ev rfl (E.move rfl) ?_
            first | refine R.ev rfl (E.fieldAddr0 1 rfl Tryd.underlying58 rfl Tryd.sz56 rfl) ?_ | refine R.ev rfl (E.fieldAddrN 1 rfl Tryd.underlying58 rfl Tryd.sz56 rfl) ?_
            refine R.ev rfl (E.load1 rfl Tryd.underlying56 rfl (by first | exact hs.ldc | exact hs.ld rfl | exact hs.ld (by assumption) | exact by assumption | exact At.cellC (by assumption))) ?_
            refine R.ev rfl (E.lenSl rfl Tryd.underlying56) ?_
            refine R.ev rfl (E.lss rfl rfl) ?_
            refine R.done ?_
            refine X.keep [(2, _), (4, _), (8, _), (11, _), (142, _)] ⟨rfl, rfl, rfl, rfl, rfl, trivial⟩ ?_
            refine X.next ?_
            refine C.cdec rfl (fun h142 => ?_) (fun h142 => ?_)
            · obtain ⟨y, bk_y, of_y, hy, my, ly, rfl, Ay⟩ := hs.el (i := k) (ad := ad) (n := L.length) (c := cap) (by omega)
              have ay := Ay _ hs
              refine C.skip ?_
              refine X.next ?_
              refine C.seq ?_
              refine C.block ?_
              refine C.seq ?_
              refine C.region ?_
              first | refine R.ev rfl (E.fieldAddr0 1 rfl Tryd.underlying58 rfl Tryd.sz56 rfl) ?_ | refine R.ev rfl (E.fieldAddrN 1 rfl Tryd.underlying58 rfl Tryd.sz56 rfl) ?_
              refine R.ev rfl (E.load1 rfl Tryd.underlying56 rfl (by first | exact hs.ldc | exact hs.ld rfl | exact hs.ld (by assumption) | exact by assumption | exact At.cellC (by assumption))) ?_
              refine R.ev rfl (E.move rfl) ?_
              refine R.ev rfl (E.indexAddr rfl rfl Tryd.underlying56 Tryd.sz73 rfl (by first | omega | decide)) ?_
              first | refine R.ev rfl (E.fieldAddr0 33 rfl Tryd.underlying73 rfl Tryd.sz3 rfl) ?_ | refine R.ev rfl (E.fieldAddrN 33 rfl Tryd.underlying73 rfl Tryd.sz3 rfl) ?_
              refine R.ev rfl (E.load1 rfl Tryd.underlying3 rfl (by first | exact hs.ldc | exact hs.ld rfl | exact hs.ld (by assumption) | exact by assumption | exact At.cellC (by assumption))) ?_
              refine R.ev rfl ((E.geq rfl rfl).isB (c := !y.outs) (by simp only [Off.outs]; rw [Bool.eq_iff_iff]; simp; omega)) ?_
              refine R.done ?_
              refine X.keep [(2, _), (4, _), (8, _), (11, _), (151, _)] ⟨rfl, rfl, rfl, rfl, rfl, trivial⟩ ?_
              refine X.next ?_
              refine C.cbool rfl (fun h151 => ?_) (fun h151 => ?_)
              · refine C.drawn (SatS hs) ([1, 3, 6], [0, 2, 4, 5, 9]) (by kernel_rfl) ?_
                have hs := hs.drew
                first | refine D.evP 0 rfl (by kernel_rfl) rfl (fun _ => hs.to) (fun _ => E.fieldAddr0 1 rfl Tryd.underlying58 rfl Tryd.sz56 rfl) ?_ | refine D.evP 0 rfl (by kernel_rfl) rfl (fun _ => hs.to) (fun _ => E.fieldAddrN 1 rfl Tryd.underlying58 rfl Tryd.sz56 rfl) ?_
                first | refine D.evP 2 rfl (by kernel_rfl) rfl (fun _ => hs.to) (fun _ => E.fieldAddr0 1 rfl Tryd.underlying58 rfl Tryd.sz56 rfl) ?_ | refine D.evP 2 rfl (by kernel_rfl) rfl (fun _ => hs.to) (fun _ => E.fieldAddrN 1 rfl Tryd.underlying58 rfl Tryd.sz56 rfl) ?_
                refine D.evP 4 rfl (by kernel_rfl) rfl (fun _ => hs.to) (fun _ => E.move rfl) ?_
                refine D.ev 1 rfl (by kernel_rfl) rfl hs.to (fun _ hS => E.load1 rfl Tryd.underlying56 rfl (by first | exact hS.ldc | exact hS.ld rfl | exact hS.ld (by assumption) | exact by assumption | exact At.cellC (by assumption) | exact At.cellC ((by assumption : ∀ w', Sat _ w' _ → At w' _ _ _) _ hS) | exact (by assumption : ∀ w', Sat _ w' _ → World.cell? w' _ = some _) _ hS)) ?_
                refine D.ev 3 rfl (by kernel_rfl) rfl hs.to (fun _ hS => E.load1 rfl Tryd.underlying56 rfl (by first | exact hS.ldc | exact hS.ld rfl | exact hS.ld (by assumption) | exact by assumption | exact At.cellC (by assumption) | exact At.cellC ((by assumption : ∀ w', Sat _ w' _ → At w' _ _ _) _ hS) | exact (by assumption : ∀ w', Sat _ w' _ → World.cell? w' _ = some _) _ hS)) ?_
                refine D.evP 5 rfl (by kernel_rfl) rfl (fun _ => hs.to) (fun _ => E.indexAddr rfl rfl Tryd.underlying56 Tryd.sz73 rfl (by first | omega | decide)) ?_
                refine D.ev 6 rfl (by kernel_rfl) rfl hs.to (fun _ hS => E.loadRowC rfl Tryd.underlying73 rfl Tryd.sz73 (by first | exact ⟨hS.ldA, by first | rfl | assumption | exact encV_len _ | exact Enc.len _ | exact len_ub (by assumption)⟩ | exact ⟨hS.ldP rfl, by first | rfl | assumption | exact encV_len _ | exact Enc.len _ | exact len_ub (by assumption)⟩ | exact ⟨hS.ldM rfl rfl, by first | rfl | assumption | exact encV_len _ | exact Enc.len _ | exact len_ub (by assumption)⟩ | exact ⟨hS.ldM (by assumption) (by first | rfl | assumption), by first | rfl | assumption | exact encV_len _ | exact Enc.len _ | exact len_ub (by assumption)⟩ | exact ⟨by assumption, by first | rfl | assumption | exact encV_len _ | exact Enc.len _ | exact len_ub (by assumption)⟩ | exact ⟨(by assumption : ∀ w', Sat _ w' _ → At w' _ _ _) _ hS, by first | rfl | assumption | exact encV_len _ | exact Enc.len _ | exact len_ub (by assumption)⟩ | exact hS.ldp | exact At.partC (by assumption) | exact At.partC ((by assumption : ∀ w', Sat _ w' _ → At w' _ _ _) _ hS))) ?_
                refine D.act 7 rfl (by kernel_rfl) ?_
                refine R.buildSliceA rfl Tryd.underlying56 Tryd.sz73 Tryd.zr73 rfl (by first | rfl | assumption | exact encV_len _ | exact Enc.len _ | simp [*]) (by decide) (by decide) ?_
                intro b159 w159 n159
                have hs := hs.new n159
                refine D.back hs.to ?_
                refine D.act 8 rfl (by kernel_rfl) ?_
                refine R.capp1 (y) hs rfl rfl Tryd.underlying56 Tryd.by73 (by rfl) rfl (by first | exact hs.ldA | exact hs.ldP rfl | exact by assumption) (by decide) (by first | omega | (simp only [List.length_append, List.length_cons, List.length_nil] at *; omega)) (by first | omega | (simp only [List.length_append, List.length_cons, List.length_nil] at *; omega)) ?_
                intro v160 w160 F160 r160 hs
                refine D.backT (by kernel_rfl) ?_
                first | refine D.evP 9 rfl (by kernel_rfl) rfl (np (by kernel_rfl)) (fun _ => E.fieldAddr0 1 rfl Tryd.underlying58 rfl Tryd.sz56 rfl) ?_ | refine D.evP 9 rfl (by kernel_rfl) rfl (np (by kernel_rfl)) (fun _ => E.fieldAddrN 1 rfl Tryd.underlying58 rfl Tryd.sz56 rfl) ?_
                refine D.act 10 rfl (by kernel_rfl) ?_
                refine R.cstore1 hs rfl rfl Tryd.sz56 (by first | decide | simp [*]) (by first | rfl | exact OneC.one | exact KRow.oneC' (by assumption)) ?_
                intro w35_10 hs
                try simp only [List.set_cons_zero, List.set_cons_succ] at hs
                refine D.backT (by kernel_rfl) ?_
                refine D.done rfl (by kernel_rfl) ?_
                refine X.keep [(2, _), (4, _), (8, _), (11, _)] ⟨rfl, rfl, rfl, rfl, trivial⟩ ?_
                refine X.blockNormal ?_
                refine X.next ?_
                refine C.region ?_
                refine R.ev rfl (E.move rfl) ?_
                refine R.ev rfl (E.add rfl rfl (by omega) (by omega)) ?_
                refine R.ev rfl (E.assign rfl) ?_
                refine R.done ?_
                refine X.keep [(2, _), (4, _), (8, _), (11, _)] ⟨rfl, rfl, rfl, rfl, trivial⟩ ?_
                first
                  | exact X.again (k + 1, v160, F160) ⟨rfl, rfl, rfl, rfl, trivial⟩ ⟨by omega, by rw [filtL_snoc hy, show y.outs = false by simpa using h151]; exact r160, hs.to⟩ (by show _ - _ < _ - _; omega)
                  | exact X.again (k + 1, v, F') ⟨rfl, rfl, rfl, rfl, trivial⟩ ⟨by omega, by rw [filtL_snoc hy, show y.outs = true by simpa using h151]; simpa using r1, hs.to⟩ (by show _ - _ < _ - _; omega)
              · refine C.skip ?_
                refine X.blockNormal ?_
                refine X.next ?_
                refine C.region ?_
                refine R.ev rfl (E.move rfl) ?_
                refine R.ev rfl (E.add rfl rfl (by omega) (by omega)) ?_
                refine R.ev rfl (E.assign rfl) ?_
                refine R.done ?_
                refine X.keep [(2, _), (4, _), (8, _), (11, _)] ⟨rfl, rfl, rfl, rfl, trivial⟩ ?_
                first
                  | exact X.again (k + 1, v160, F160) ⟨rfl, rfl, rfl, rfl, trivial⟩ ⟨by omega, by rw [filtL_snoc hy, show y.outs = false by simpa using h151]; exact r160, hs.to⟩ (by show _ - _ < _ - _; omega)
                  | exact X.again (k + 1, v, F') ⟨rfl, rfl, rfl, rfl, trivial⟩ ⟨by omega, by rw [filtL_snoc hy, show y.outs = true by simpa using h151]; simpa using r1, hs.to⟩ (by show _ - _ < _ - _; omega)
            · refine C.exit ?_
              refine X.thenExit ?_
              refine X.loopExit ?_
              refine X.blockExit ?_
              refine X.next ?_
              refine C.seq ?_
              refine C.drawn (SatS hs) ([0, 1], [4, 5, 6]) (by kernel_rfl) ?_
              have hs := hs.drew
              refine D.ev 0 rfl (by kernel_rfl) rfl hs.to (fun _ hS => E.loadRowC rfl Tryd.underlying58 rfl Tryd.sz58 (by first | exact ⟨hS.ldA, by first | rfl | assumption | exact encV_len _ | exact Enc.len _ | exact len_ub (by assumption)⟩ | exact ⟨hS.ldP rfl, by first | rfl | assumption | exact encV_len _ | exact Enc.len _ | exact len_ub (by assumption)⟩ | exact ⟨hS.ldM rfl rfl, by first | rfl | assumption | exact encV_len _ | exact Enc.len _ | exact len_ub (by assumption)⟩ | exact ⟨hS.ldM (by assumption) (by first | rfl | assumption), by first | rfl | assumption | exact encV_len _ | exact Enc.len _ | exact len_ub (by assumption)⟩ | exact ⟨by assumption, by first | rfl | assumption | exact encV_len _ | exact Enc.len _ | exact len_ub (by assumption)⟩ | exact ⟨(by assumption : ∀ w', Sat _ w' _ → At w' _ _ _) _ hS, by first | rfl | assumption | exact encV_len _ | exact Enc.len _ | exact len_ub (by assumption)⟩ | exact hS.ldp | exact At.partC (by assumption) | exact At.partC ((by assumption : ∀ w', Sat _ w' _ → At w' _ _ _) _ hS))) ?_
              refine D.ev 1 rfl (by kernel_rfl) rfl hs.to (fun _ hS => E.loadRowC rfl Tryd.underlying58 rfl Tryd.sz58 (by first | exact ⟨hS.ldA, by first | rfl | assumption | exact encV_len _ | exact Enc.len _ | exact len_ub (by assumption)⟩ | exact ⟨hS.ldP rfl, by first | rfl | assumption | exact encV_len _ | exact Enc.len _ | exact len_ub (by assumption)⟩ | exact ⟨hS.ldM rfl rfl, by first | rfl | assumption | exact encV_len _ | exact Enc.len _ | exact len_ub (by assumption)⟩ | exact ⟨hS.ldM (by assumption) (by first | rfl | assumption), by first | rfl | assumption | exact encV_len _ | exact Enc.len _ | exact len_ub (by assumption)⟩ | exact ⟨by assumption, by first | rfl | assumption | exact encV_len _ | exact Enc.len _ | exact len_ub (by assumption)⟩ | exact ⟨(by assumption : ∀ w', Sat _ w' _ → At w' _ _ _) _ hS, by first | rfl | assumption | exact encV_len _ | exact Enc.len _ | exact len_ub (by assumption)⟩ | exact hS.ldp | exact At.partC (by assumption) | exact At.partC ((by assumption : ∀ w', Sat _ w' _ → At w' _ _ _) _ hS))) ?_
              refine D.act 2 rfl (by kernel_rfl) ?_
              refine R.call ⟨_, _, Tryd.func28, rfl, by kernel_rfl⟩ rfl rfl (mouts_any (sz := sz) (L := L) hs (by omega)) ?_
              rintro v36 w36 ⟨F36, r36, hs⟩
              refine D.back hs.to ?_
              refine D.act 3 rfl (by kernel_rfl) ?_
              first | refine R.cstoreAll hs rfl rfl Tryd.sz58 (by first | rfl | assumption | exact encV_len _ | exact Enc.len _ | exact len_ub (by assumption) | simp [*]) (by first | rfl | assumption | exact encV_len _ | exact Enc.len _ | exact len_ub (by assumption) | simp [*]) (by first | assumption | exact OneL.all | exact Enc.one _ | exact ub_all _ | (repeat' (first | refine List.forall_mem_cons.2 ⟨?_, ?_⟩ | exact List.forall_mem_nil _ | rfl | exact OneC.one | exact KRow.oneC' (by assumption)))) ?_ | refine R.cstore hs rfl rfl Tryd.sz58 (by first | rfl | assumption | exact encV_len _ | exact Enc.len _ | exact len_ub (by assumption) | simp [*]) (by simp [*]) (by first | assumption | exact OneL.all | exact Enc.one _ | exact ub_all _ | (repeat' (first | refine List.forall_mem_cons.2 ⟨?_, ?_⟩ | exact List.forall_mem_nil _ | rfl | exact OneC.one | exact KRow.oneC' (by assumption)))) ?_
              intro w36_3 hs
              try simp only [List.set_cons_zero, List.set_cons_succ] at hs
              refine D.backT (by kernel_rfl) ?_
              refine D.evP 4 rfl (by kernel_rfl) rfl (np (by kernel_rfl)) (fun _ => E.assign rfl) ?_
              refine D.evP 5 rfl (by kernel_rfl) rfl (np (by kernel_rfl)) (fun _ => E.assign rfl) ?_
              refine D.evP 6 rfl (by kernel_rfl) rfl (np (by kernel_rfl)) (fun _ => E.assign rfl) ?_
              refine D.done rfl (by kernel_rfl) ?_
              refine X.keep [(4, _), (5, _), (6, _), (7, _)] ⟨rfl, rfl, rfl, rfl, trivial⟩ ?_
              refine X.next ?_
              refine C.ret ?_
              refine X.blockRet ?_
              refine X.thenRet ?_
              refine X.resCTTT rfl rfl Tryd.underlying58 rfl Tryd.sz58 (by first | exact ⟨hs.ldA, by first | rfl | assumption | exact encV_len _ | exact Enc.len _ | exact len_ub (by assumption)⟩ | exact ⟨hs.ldP rfl, by first | rfl | assumption | exact encV_len _ | exact Enc.len _ | exact len_ub (by assumption)⟩ | exact ⟨by assumption, by first | rfl | assumption | exact encV_len _ | exact Enc.len _ | exact len_ub (by assumption)⟩) rfl rfl rfl ?_
              rw [show k = L.length by omega, List.take_length] at r1
              obtain ⟨K2, hk2, r2, hs⟩ := r1.freezeK (hs.front (F := F'))
              obtain ⟨K3, hk3, r3, hs⟩ := r36.freezeK (hs.front (F := F36))
              exact ⟨K3, v, .slice none 0 0, v36, by simp only [pS, pE, hk0], hk2.trans hk3, by simp only [pL, hk0]; exact KRow.mono, by simp only [pR, hk0]; exact KRow.nil, by simp only [pD, hk0]; exact r3, hs.to⟩
          · refine C.seq ?_
            refine C.seq ?_
            refine C.region ?_
            first | refine R.ev rfl (E.fieldAddr0 33 rfl Tryd.underlying51 rfl Tryd.sz3 rfl) ?_ | refine R.ev rfl (E.fieldAddrN 33 rfl Tryd.underlying51 rfl Tryd.sz3 rfl) ?_
            refine R.ev rfl (E.load1 rfl Tryd.underlying3 rfl (by first | exact hs.ldc | exact hs.ld rfl | exact hs.ld (by assumption) | exact by assumption | exact At.cellC (by assumption))) ?_
            refine R.ev rfl (E.lss rfl rfl) ?_
            refine R.ev rfl (E.move rfl) ?_
            refine R.split 29 rfl (fun h29 => ?_) (fun h29 => ?_)
            · refine R.gskip rfl rfl rfl ?_
              refine R.gskip rfl rfl rfl ?_
              refine R.gskip rfl rfl rfl ?_
              refine R.ev rfl (E.pickT rfl rfl) ?_
              refine R.done ?_
              refine X.keep [(2, _), (3, _), (4, _), (8, _), (33, _)] ⟨rfl, rfl, rfl, rfl, rfl, trivial⟩ ?_
              refine X.next ?_
              refine C.ctrue rfl ?_
              refine C.seq ?_
              refine C.region ?_
              refine R.ev rfl (E.loadRowC rfl Tryd.underlying58 rfl Tryd.sz58 (by first | exact ⟨hs.ldA, by first | rfl | assumption | exact encV_len _ | exact Enc.len _ | exact len_ub (by assumption)⟩ | exact ⟨hs.ldP rfl, by first | rfl | assumption | exact encV_len _ | exact Enc.len _ | exact len_ub (by assumption)⟩ | exact ⟨hs.ldM rfl rfl, by first | rfl | assumption | exact encV_len _ | exact Enc.len _ | exact len_ub (by assumption)⟩ | exact ⟨hs.ldM (by assumption) (by first | rfl | assumption), by first | rfl | assumption | exact encV_len _ | exact Enc.len _ | exact len_ub (by assumption)⟩ | exact ⟨by assumption, by first | rfl | assumption | exact encV_len _ | exact Enc.len _ | exact len_ub (by assumption)⟩ | exact hs.ldp | exact At.partC (by assumption))) ?_
              first | refine R.cstoreAll hs rfl rfl Tryd.sz58 (by first | rfl | assumption | exact encV_len _ | exact Enc.len _ | exact len_ub (by assumption) | simp [*]) (by first | rfl | assumption | exact encV_len _ | exact Enc.len _ | exact len_ub (by assumption) | simp [*]) (by first | assumption | exact OneL.all | exact Enc.one _ | exact ub_all _ | (repeat' (first | refine List.forall_mem_cons.2 ⟨?_, ?_⟩ | exact List.forall_mem_nil _ | rfl | exact OneC.one | exact KRow.oneC' (by assumption)))) ?_ | refine R.cstore hs rfl rfl Tryd.sz58 (by first | rfl | assumption | exact encV_len _ | exact Enc.len _ | exact len_ub (by assumption) | simp [*]) (by simp [*]) (by first | assumption | exact OneL.all | exact Enc.one _ | exact ub_all _ | (repeat' (first | refine List.forall_mem_cons.2 ⟨?_, ?_⟩ | exact List.forall_mem_nil _ | rfl | exact OneC.one | exact KRow.oneC' (by assumption)))) ?_
              intro w5_1 hs
              try simp only [List.set_cons_zero, List.set_cons_succ] at hs
              refine R.ev rfl (E.assign rfl) ?_
              refine R.ev rfl (E.assign rfl) ?_
              refine R.ev rfl (E.assign rfl) ?_
              refine R.done ?_
              refine X.keep [(4, _), (5, _), (6, _), (7, _)] ⟨rfl, rfl, rfl, rfl, trivial⟩ ?_
              refine X.next ?_
              refine C.ret ?_
              refine X.thenRet ?_
              refine X.blockRet ?_
              refine X.thenRet ?_
              refine X.resCTTT rfl rfl Tryd.underlying58 rfl Tryd.sz58 (by first | exact ⟨hs.ldA, by first | rfl | assumption | exact encV_len _ | exact Enc.len _ | exact len_ub (by assumption)⟩ | exact ⟨hs.ldP rfl, by first | rfl | assumption | exact encV_len _ | exact Enc.len _ | exact len_ub (by assumption)⟩ | exact ⟨by assumption, by first | rfl | assumption | exact encV_len _ | exact Enc.len _ | exact len_ub (by assumption)⟩) rfl rfl rfl ?_
              have hk0 : kd o = 4 := by omega
              have hz : isSz o.n = false := by first | (simp_all [isSz]; done) | (simp_all [isSz]; omega)
              exact DoPost.same hr hs.to (by simp only [pE, hk0, resizeE, hz]; rfl) (by simp only [pL, hk0]) (by simp only [pS, hk0, resizeS, hz]; rfl) (by simp only [pR, hk0]) (by simp only [pD, hk0])
            · refine R.gyes rfl rfl ?_
              first | refine R.ev rfl (E.fieldAddr0 33 rfl Tryd.underlying51 rfl Tryd.sz3 rfl) ?_ | refine R.ev rfl (E.fieldAddrN 33 rfl Tryd.underlying51 rfl Tryd.sz3 rfl) ?_
              refine R.gyes rfl rfl ?_
              refine R.ev rfl (E.load1 rfl Tryd.underlying3 rfl (by first | exact hs.ldc | exact hs.ld rfl | exact hs.ld (by assumption) | exact by assumption | exact At.cellC (by assumption))) ?_
              refine R.gyes rfl rfl ?_
              refine R.ev rfl (E.gtr rfl rfl) ?_
              refine R.ev rfl (E.pickF rfl rfl) ?_
              refine R.done ?_
              refine X.keep [(2, _), (3, _), (4, _), (8, _), (33, _)] ⟨rfl, rfl, rfl, rfl, rfl, trivial⟩ ?_
              refine X.next ?_
              refine C.cbool rfl (fun h33 => ?_) (fun h33 => ?_)
              · refine C.seq ?_
                refine C.region ?_
                refine R.ev rfl (E.loadRowC rfl Tryd.underlying58 rfl Tryd.sz58 (by first | exact ⟨hs.ldA, by first | rfl | assumption | exact encV_len _ | exact Enc.len _ | exact len_ub (by assumption)⟩ | exact ⟨hs.ldP rfl, by first | rfl | assumption | exact encV_len _ | exact Enc.len _ | exact len_ub (by assumption)⟩ | exact ⟨hs.ldM rfl rfl, by first | rfl | assumption | exact encV_len _ | exact Enc.len _ | exact len_ub (by assumption)⟩ | exact ⟨hs.ldM (by assumption) (by first | rfl | assumption), by first | rfl | assumption | exact encV_len _ | exact Enc.len _ | exact len_ub (by assumption)⟩ | exact ⟨by assumption, by first | rfl | assumption | exact encV_len _ | exact Enc.len _ | exact len_ub (by assumption)⟩ | exact hs.ldp | exact At.partC (by assumption))) ?_
                first | refine R.cstoreAll hs rfl rfl Tryd.sz58 (by first | rfl | assumption | exact encV_len _ | exact Enc.len _ | exact len_ub (by assumption) | simp [*]) (by first | rfl | assumption | exact encV_len _ | exact Enc.len _ | exact len_ub (by assumption) | simp [*]) (by first | assumption | exact OneL.all | exact Enc.one _ | exact ub_all _ | (repeat' (first | refine List.forall_mem_cons.2 ⟨?_, ?_⟩ | exact List.forall_mem_nil _ | rfl | exact OneC.one | exact KRow.oneC' (by assumption)))) ?_ | refine R.cstore hs rfl rfl Tryd.sz58 (by first | rfl | assumption | exact encV_len _ | exact Enc.len _ | exact len_ub (by assumption) | simp [*]) (by simp [*]) (by first | assumption | exact OneL.all | exact Enc.one _ | exact ub_all _ | (repeat' (first | refine List.forall_mem_cons.2 ⟨?_, ?_⟩ | exact List.forall_mem_nil _ | rfl | exact OneC.one | exact KRow.oneC' (by assumption)))) ?_
                intro w5_1 hs
                try simp only [List.set_cons_zero, List.set_cons_succ] at hs
                refine R.ev rfl (E.assign rfl) ?_
                refine R.ev rfl (E.assign rfl) ?_
                refine R.ev rfl (E.assign rfl) ?_
                refine R.done ?_
                refine X.keep [(4, _), (5, _), (6, _), (7, _)] ⟨rfl, rfl, rfl, rfl, trivial⟩ ?_
                refine X.next ?_
                refine C.ret ?_
                refine X.thenRet ?_
                refine X.blockRet ?_
                refine X.thenRet ?_
                refine X.resCTTT rfl rfl Tryd.underlying58 rfl Tryd.sz58 (by first | exact ⟨hs.ldA, by first | rfl | assumption | exact encV_len _ | exact Enc.len _ | exact len_ub (by assumption)⟩ | exact ⟨hs.ldP rfl, by first | rfl | assumption | exact encV_len _ | exact Enc.len _ | exact len_ub (by assumption)⟩ | exact ⟨by assumption, by first | rfl | assumption | exact encV_len _ | exact Enc.len _ | exact len_ub (by assumption)⟩) rfl rfl rfl ?_
                have hk0 : kd o = 4 := by omega
                have hz : isSz o.n = false := by first | (simp_all [isSz]; done) | (simp_all [isSz]; omega)
                exact DoPost.same hr hs.to (by simp only [pE, hk0, resizeE, hz]; rfl) (by simp only [pL, hk0]) (by simp only [pS, hk0, resizeS, hz]; rfl) (by simp only [pR, hk0]) (by simp only [pD, hk0])
              · refine C.skip ?_
                refine X.next ?_
                refine C.region ?_
                first | refine R.ev rfl (E.fieldAddr0 33 rfl Tryd.underlying51 rfl Tryd.sz3 rfl) ?_ | refine R.ev rfl (E.fieldAddrN 33 rfl Tryd.underlying51 rfl Tryd.sz3 rfl) ?_
                refine R.ev rfl (E.load1 rfl Tryd.underlying3 rfl (by first | exact hs.ldc | exact hs.ld rfl | exact hs.ld (by assumption) | exact by assumption | exact At.cellC (by assumption))) ?_
                first | refine R.ev rfl (E.fieldAddr0 0 rfl Tryd.underlying58 rfl Tryd.sz3 rfl) ?_ | refine R.ev rfl (E.fieldAddrN 0 rfl Tryd.underlying58 rfl Tryd.sz3 rfl) ?_
                refine R.cstore1 hs rfl rfl Tryd.sz3 (by first | decide | simp [*]) (by first | rfl | exact OneC.one | exact KRow.oneC' (by assumption)) ?_
                intro w6_3 hs
                try simp only [List.set_cons_zero, List.set_cons_succ] at hs
                have hk0 : kd o = 4 := by omega
                have hz : isSz o.n = true := by first | (simp_all [isSz]; done) | (simp_all [isSz]; omega)
                have hfin : ∀ w', Sat K w' (F17 :: Hs) → DoPost K Hs sz L o (.tuple #[.agg #[.int .i64 o.n, v17], .int .i64 0, .slice none 0 0, .slice none 0 0]) w' := fun w' h => DoPost.new r17 h (by simp only [pE, hk0, resizeE, hz]; rfl) (by simp only [pL, hk0]) (by simp only [pS, hk0, resizeS, hz]; rfl) (by simp only [pR, hk0]) (by simp only [pD, hk0])
                refine R.done ?_
                refine X.keep [(4, _), (8, _)] ⟨rfl, rfl, trivial⟩ ?_
                refine X.blockNormal ?_
                refine X.next ?_
                refine C.seq ?_
                refine C.region ?_
                refine R.ev rfl (E.loadRowC rfl Tryd.underlying58 rfl Tryd.sz58 (by first | exact ⟨hs.ldA, by first | rfl | assumption | exact encV_len _ | exact Enc.len _ | exact len_ub (by assumption)⟩ | exact ⟨hs.ldP rfl, by first | rfl | assumption | exact encV_len _ | exact Enc.len _ | exact len_ub (by assumption)⟩ | exact ⟨hs.ldM rfl rfl, by first | rfl | assumption | exact encV_len _ | exact Enc.len _ | exact len_ub (by assumption)⟩ | exact ⟨hs.ldM (by assumption) (by first | rfl | assumption), by first | rfl | assumption | exact encV_len _ | exact Enc.len _ | exact len_ub (by assumption)⟩ | exact ⟨by assumption, by first | rfl | assumption | exact encV_len _ | exact Enc.len _ | exact len_ub (by assumption)⟩ | exact hs.ldp | exact At.partC (by assumption))) ?_
                first | refine R.cstoreAll hs rfl rfl Tryd.sz58 (by first | rfl | assumption | exact encV_len _ | exact Enc.len _ | exact len_ub (by assumption) | simp [*]) (by first | rfl | assumption | exact encV_len _ | exact Enc.len _ | exact len_ub (by assumption) | simp [*]) (by first | assumption | exact OneL.all | exact Enc.one _ | exact ub_all _ | (repeat' (first | refine List.forall_mem_cons.2 ⟨?_, ?_⟩ | exact List.forall_mem_nil _ | rfl | exact OneC.one | exact KRow.oneC' (by assumption)))) ?_ | refine R.cstore hs rfl rfl Tryd.sz58 (by first | rfl | assumption | exact encV_len _ | exact Enc.len _ | exact len_ub (by assumption) | simp [*]) (by simp [*]) (by first | assumption | exact OneL.all | exact Enc.one _ | exact ub_all _ | (repeat' (first | refine List.forall_mem_cons.2 ⟨?_, ?_⟩ | exact List.forall_mem_nil _ | rfl | exact OneC.one | exact KRow.oneC' (by assumption)))) ?_
                intro w37_1 hs
                try simp only [List.set_cons_zero, List.set_cons_succ] at hs
                refine R.ev rfl (E.assign rfl) ?_
                refine R.ev rfl (E.assign rfl) ?_
                refine R.ev rfl (E.assign rfl) ?_
                refine R.done ?_
                refine X.keep [(4, _), (5, _), (6, _), (7, _)] ⟨rfl, rfl, rfl, rfl, trivial⟩ ?_
                refine X.next ?_
                refine C.ret ?_
                refine X.resCTTT rfl rfl Tryd.underlying58 rfl Tryd.sz58 (by first | exact ⟨hs.ldA, by first | rfl | assumption | exact encV_len _ | exact Enc.len _ | exact len_ub (by assumption)⟩ | exact ⟨hs.ldP rfl, by first | rfl | assumption | exact encV_len _ | exact Enc.len _ | exact len_ub (by assumption)⟩ | exact ⟨by assumption, by first | rfl | assumption | exact encV_len _ | exact Enc.len _ | exact len_ub (by assumption)⟩) rfl rfl rfl ?_
                exact hfin _ hs.to
end Go.Proofs.YtajbclcpkgenbaaDoor
