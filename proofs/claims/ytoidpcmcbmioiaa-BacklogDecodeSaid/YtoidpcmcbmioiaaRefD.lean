/-
  package bulletinref38: read, Decode.
-/
import Derived.Test.YtoidpcmcbmioiaaDecP
namespace Go.Proofs.Ytoidpcmcbmioiaa
open Go.Eng Go.RowKit

variable {K : Kn} {Hs Rs : List Hl} {F : Hl} {w : World} {s : RB} {v : Value} {P : List UInt8}
theorem be_mono : ∀ (l : List UInt8) (u : Nat), u ≤ l.foldl (fun u c => 256 * u + c.toNat) u
  | [], _ => Nat.le_refl _
  | c :: l, u => by
    have := be_mono l (256 * u + c.toNat)
    rw [List.foldl_cons]; omega
theorem beNat_ge {l : List UInt8} {i : Nat} (h : i < l.length) : 256 * beNat (l.take i) ≤ beNat l := by
  have e : beNat l = (l.drop (i + 1)).foldl (fun u c => 256 * u + c.toNat) (beNat (l.take i ++ [l[i]])) := by
    unfold beNat
    rw [← List.foldl_append, ← List.take_succ_eq_append_getElem h, List.take_append_drop]
  rw [e]
  refine Nat.le_trans ?_ (be_mono _ _)
  rw [beNat_snoc]; omega
def rdR (l : List UInt8) : Int := if beNat l < 281474976710656 then (beNat l : Int) else -1
theorem rdR_q {l : List UInt8} {q : Int → Bool} (hq : ∀ n, q n = true → 0 ≤ n ∧ n < 281474976710656) : q (rdR l) = q (toI l) ∧ (q (toI l) = true → rdR l = toI l) := by
  by_cases h : beNat l < 281474976710656
  · have e : rdR l = toI l := by rw [rdR, if_pos h, toI, if_pos (by omega)]
    rw [e]; exact ⟨rfl, fun _ => rfl⟩
  · have h1 : q (toI l) = false := by
      cases hc : q (toI l) with
      | false => rfl
      | true =>
        have := hq _ hc
        unfold toI at this
        split at this <;> omega
    have h2 : q (rdR l) = false := by
      cases hc : q (rdR l) with
      | false => rfl
      | true =>
        have := hq _ hc
        rw [rdR, if_neg h] at this; omega
    rw [h1, h2]; exact ⟨rfl, fun h => Bool.noConfusion h⟩
theorem read_any (at_ : Nat) (hs : Sat K w Hs) [hr : KRow encB 1 K v P] (hat : at_ + 8 ≤ P.length) (hP : P.length ≤ 1000000) : Ret Try.prog 60 #[v, .int .i64 (at_ : Nat)] w fun r w' => r = .int .i64 (rdR ((P.drop at_).take 8)) ∧ Sat K w' Hs := by
  obtain ⟨ad, cap, rfl, hsl, hc⟩ := hr.ex
  obtain ⟨l, hl⟩ : ∃ l, l = (P.drop at_).take 8 := ⟨_, rfl⟩
  rw [← hl]
  have hll : l.length = 8 := by rw [hl, List.length_take, List.length_drop]; omega
  refine Ret.enter (n := 24) (args := [.slice ad P.length cap, .int .i64 (at_ : Nat)]) Try.func60 rfl rfl ?_
  refine C.keep [(0, _), (1, _)] ⟨rfl, rfl, trivial⟩ ?_
  refine C.seq ?_
  refine C.region ?_
  refine R.ev rfl (E.assign rfl) ?_
  refine R.done ?_
  refine X.keep [(0, _), (1, _)] ⟨rfl, rfl, trivial⟩ ?_
  refine X.next ?_
  refine C.seq ?_
  refine C.region ?_
  refine R.ev rfl ((E.assign rfl).as (u := .int .i64 ((beNat (l.take 0) : Nat) : Int)) (by simp [beNat])) ?_
  refine R.done ?_
  refine X.keep [(0, _), (1, _), (5, _)] ⟨rfl, rfl, rfl, trivial⟩ ?_
  refine X.next ?_
  refine C.seq ?_
  refine C.seq ?_
  refine C.region ?_
  refine R.ev rfl ((E.assign rfl).as (u := .int .i64 ((0 : Nat) : Int)) rfl) ?_
  refine R.done ?_
  refine X.keep [(0, _), (1, _), (5, _), (6, _)] ⟨rfl, rfl, rfl, rfl, trivial⟩ ?_
  refine X.next ?_
  refine C.block ?_
  refine C.loop  [(0, _), (1, _)] (fun i => [(5, .int .i64 ((beNat (l.take i) : Nat) : Int)), (6, .int .i64 (i : Nat))]) (fun i w' => i ≤ 8 ∧ beNat (l.take i) < 281474976710656 ∧ Sat K w' Hs) (fun i => 8 - i) (0) ⟨rfl, rfl, rfl, rfl, trivial⟩ ⟨by omega, by simp [beNat], hs⟩ ?_
  rintro i w1 ⟨hi, hlt, hs⟩
  refine C.keep [(0, _), (1, _), (5, _), (6, _)] ⟨rfl, rfl, rfl, rfl, trivial⟩ ?_
  refine C.seq ?_
  refine C.seq ?_
  refine C.region ?_
  refine R.ev rfl (E.move rfl) ?_
  refine R.ev rfl (E.lss rfl rfl) ?_
  refine R.done ?_
  refine X.keep [(0, _), (1, _), (5, _), (6, _), (8, _)] ⟨rfl, rfl, rfl, rfl, rfl, trivial⟩ ?_
  refine X.next ?_
  refine C.cdec rfl (fun h8 => ?_) (fun h8 => ?_)
  · obtain ⟨c, hci⟩ : ∃ c, P[at_ + i]? = some c := ⟨_, List.getElem?_eq_getElem (by omega)⟩
    have hli : l[i]? = some c := by rw [hl, List.getElem?_take_of_lt (by omega), List.getElem?_drop]; exact hci
    have hcl := c.toNat_lt
    refine C.skip ?_
    refine X.next ?_
    refine C.seq ?_
    refine C.block ?_
    refine C.seq ?_
    refine C.seq ?_
    refine C.region ?_
    refine R.ev rfl (E.move rfl) ?_
    refine R.ev rfl (E.geq rfl rfl) ?_
    refine R.done ?_
    refine X.keep [(0, _), (1, _), (5, _), (6, _), (12, _)] ⟨rfl, rfl, rfl, rfl, rfl, trivial⟩ ?_
    refine X.next ?_
    refine C.cdec rfl (fun h12 => ?_) (fun h12 => ?_)
    · refine C.seq ?_
      refine C.region ?_
      refine R.ev rfl (E.assign rfl) ?_
      refine R.done ?_
      refine X.keep [(4, _)] ⟨rfl, trivial⟩ ?_
      refine X.next ?_
      refine C.ret ?_
      refine X.thenRet ?_
      refine X.blockRet ?_
      refine X.thenRet ?_
      refine X.loopRet ?_
      refine X.blockRet ?_
      refine X.thenRet ?_
      refine X.ret1 rfl rfl ?_
      have := beNat_ge (l := l) (i := i) (by omega)
      exact ⟨by rw [rdR, if_neg (by omega)], hs⟩
    · refine C.skip ?_
      refine X.next ?_
      refine C.region ?_
      refine R.ev rfl (E.move rfl) ?_
      refine R.ev rfl ((E.mul rfl rfl (by omega) (by omega)).isI (c := ((256 * beNat (l.take i) : Nat) : Int)) (by omega)) ?_
      refine R.ev rfl (E.move rfl) ?_
      refine R.ev rfl (E.move rfl) ?_
      refine R.ev rfl (E.move rfl) ?_
      refine R.ev rfl ((E.add rfl rfl (by omega) (by omega)).isI (c := ((at_ + i : Nat) : Int)) (by omega)) ?_
      obtain ⟨y, bk, of, hy, _, _, rfl, Ay⟩ := hs.el (i := at_ + i) (ad := ad) (n := P.length) (c := cap) (by omega)
      obtain rfl : c = y := by rw [hci] at hy; simpa using hy
      refine R.ev rfl (E.indexAddr rfl rfl Try.underlying57 Try.sz5 rfl (by first | omega | decide)) ?_
      refine R.ev rfl (E.load1 rfl Try.underlying5 rfl (Ay _ hs 0 _ rfl)) ?_
      refine R.ev rfl ((E.conv rfl Try.underlying5 Try.underlying3).isI (c := ((c.toNat : Nat) : Int)) (wrap_i64 (by omega) (by omega))) ?_
      refine R.ev rfl ((E.add rfl rfl (by omega) (by omega)).isI (c := ((beNat (l.take (i + 1)) : Nat) : Int)) (by rw [take_snoc hli, beNat_snoc]; omega)) ?_
      refine R.ev rfl (E.assign rfl) ?_
      refine R.done ?_
      refine X.keep [(0, _), (1, _), (5, _), (6, _)] ⟨rfl, rfl, rfl, rfl, trivial⟩ ?_
      refine X.blockNormal ?_
      refine X.next ?_
      refine C.region ?_
      refine R.ev rfl (E.move rfl) ?_
      refine R.ev rfl ((E.add rfl rfl (by omega) (by omega)).isI (c := ((i + 1 : Nat) : Int)) (by omega)) ?_
      refine R.ev rfl (E.assign rfl) ?_
      refine R.done ?_
      refine X.keep [(0, _), (1, _), (5, _), (6, _)] ⟨rfl, rfl, rfl, rfl, trivial⟩ ?_
      exact X.again (i + 1) ⟨rfl, rfl, rfl, rfl, trivial⟩ ⟨by omega, by rw [take_snoc hli, beNat_snoc]; omega, hs⟩ (by omega)
  · refine C.exit ?_
    refine X.thenExit ?_
    refine X.loopExit ?_
    refine X.blockExit ?_
    refine X.next ?_
    refine C.seq ?_
    refine C.region ?_
    refine R.ev rfl (E.move rfl) ?_
    refine R.ev rfl (E.assign rfl) ?_
    refine R.done ?_
    refine X.keep [(4, _)] ⟨rfl, trivial⟩ ?_
    refine X.next ?_
    refine C.ret ?_
    refine X.ret1 rfl rfl ?_
    have e : l.take i = l := List.take_of_length_le (by omega)
    rw [e] at hlt ⊢
    exact ⟨by rw [rdR, if_pos hlt], hs⟩
theorem rnew2_any (c wt : Int) (hs : Sat K w Hs) : Ret Try.prog 53 #[.int .i64 c, .int .i64 wt] w fun r w' => r = .tuple #[RB.v (if newOk c wt then ⟨c, wt, false, []⟩ else ⟨0, 0, false, []⟩) (.slice none 0 0), .int .i64 (rnewE c wt)] ∧ Sat K w' Hs := by
  refine Ret.enter (n := 24) (args := [.int .i64 c, .int .i64 wt]) Try.func53 rfl rfl ?_
  refine C.keep [(0, _), (1, _)] ⟨rfl, rfl, trivial⟩ ?_
  refine C.seq ?_
  refine C.region ?_
  refine R.sallocA hs Try.zr52 rfl ?_
  intro b4 w4 hs
  refine R.ev rfl (E.assign rfl) ?_
  refine R.done ?_
  refine X.keep [(0, _), (1, _), (4, _)] ⟨rfl, rfl, rfl, trivial⟩ ?_
  refine X.next ?_
  refine C.seq ?_
  refine C.seq ?_
  refine C.region ?_
  refine R.ev rfl (E.move rfl) ?_
  refine R.ev rfl (E.lss rfl rfl) ?_
  refine R.ev rfl (E.move rfl) ?_
  refine R.split 8 rfl (fun h8 => ?_) (fun h8 => ?_)
  · refine R.gskip rfl rfl rfl ?_
    refine R.gskip rfl rfl rfl ?_
    refine R.ev rfl (E.pickT rfl rfl) ?_
    refine R.ev rfl (E.move rfl) ?_
    refine R.gskip rfl rfl rfl ?_
    refine R.gskip rfl rfl rfl ?_
    refine R.ev rfl (E.pickT rfl rfl) ?_
    refine R.ev rfl (E.move rfl) ?_
    refine R.gskip rfl rfl rfl ?_
    refine R.gskip rfl rfl rfl ?_
    refine R.ev rfl (E.pickT rfl rfl) ?_
    refine R.done ?_
    refine X.keep [(0, _), (1, _), (4, _), (19, _)] ⟨rfl, rfl, rfl, rfl, trivial⟩ ?_
    refine X.next ?_
    refine C.ctrue rfl ?_
    refine C.seq ?_
    refine C.region ?_
    refine R.ev rfl (E.buildG (r := [.int .i64 0, .int .i64 0, .bool false, .slice none 0 0]) rfl Try.underlying52 Try.zr52 Try.ql52 (by kernel_rfl) (by kernel_rfl) trivial (by first | rfl | simp [setF, fieldsOf, Value.cells])) ?_
    first | refine R.cstoreAll hs rfl rfl Try.sz52 (by first | rfl | assumption | exact encV_len _ | exact Enc.len _ | exact len_ub (by assumption) | simp [*]) (by first | rfl | assumption | exact encV_len _ | exact Enc.len _ | exact len_ub (by assumption) | simp [*]) (by first | assumption | exact OneL.all | exact Enc.one _ | exact ub_all _ | (repeat' (first | refine List.forall_mem_cons.2 ⟨?_, ?_⟩ | exact List.forall_mem_nil _ | rfl | exact OneC.one | exact KRow.oneC' (by assumption)))) ?_ | refine R.cstore hs rfl rfl Try.sz52 (by first | rfl | assumption | exact encV_len _ | exact Enc.len _ | exact len_ub (by assumption) | simp [*]) (by simp [*]) (by first | assumption | exact OneL.all | exact Enc.one _ | exact ub_all _ | (repeat' (first | refine List.forall_mem_cons.2 ⟨?_, ?_⟩ | exact List.forall_mem_nil _ | rfl | exact OneC.one | exact KRow.oneC' (by assumption)))) ?_
    intro w2_1 hs
    try simp only [List.set_cons_zero, List.set_cons_succ] at hs
    refine R.ev rfl (E.assign rfl) ?_
    refine R.done ?_
    refine X.keep [(4, _), (5, _)] ⟨rfl, rfl, trivial⟩ ?_
    refine X.next ?_
    refine C.ret ?_
    refine X.thenRet ?_
    refine X.resCT rfl rfl Try.underlying52 rfl Try.sz52 (by first | exact ⟨hs.ldA, by first | rfl | assumption | exact encV_len _ | exact Enc.len _ | exact len_ub (by assumption)⟩ | exact ⟨hs.ldP rfl, by first | rfl | assumption | exact encV_len _ | exact Enc.len _ | exact len_ub (by assumption)⟩ | exact ⟨by assumption, by first | rfl | assumption | exact encV_len _ | exact Enc.len _ | exact len_ub (by assumption)⟩) rfl ?_
    have hn : newOk c wt = false := by simp_all [newOk, isCap, isWt]; try omega
    rw [rnewE, hn]
    exact ⟨rfl, hs.to⟩
  · refine R.gyes rfl rfl ?_
    refine R.ev rfl (E.move rfl) ?_
    refine R.gyes rfl rfl ?_
    refine R.ev rfl (E.gtr rfl rfl) ?_
    refine R.ev rfl (E.pickF rfl rfl) ?_
    refine R.ev rfl (E.move rfl) ?_
    refine R.split 12 rfl (fun h12 => ?_) (fun h12 => ?_)
    · refine R.gskip rfl rfl rfl ?_
      refine R.gskip rfl rfl rfl ?_
      refine R.ev rfl (E.pickT rfl rfl) ?_
      refine R.ev rfl (E.move rfl) ?_
      refine R.gskip rfl rfl rfl ?_
      refine R.gskip rfl rfl rfl ?_
      refine R.ev rfl (E.pickT rfl rfl) ?_
      refine R.done ?_
      refine X.keep [(0, _), (1, _), (4, _), (19, _)] ⟨rfl, rfl, rfl, rfl, trivial⟩ ?_
      refine X.next ?_
      refine C.ctrue rfl ?_
      refine C.seq ?_
      refine C.region ?_
      refine R.ev rfl (E.buildG (r := [.int .i64 0, .int .i64 0, .bool false, .slice none 0 0]) rfl Try.underlying52 Try.zr52 Try.ql52 (by kernel_rfl) (by kernel_rfl) trivial (by first | rfl | simp [setF, fieldsOf, Value.cells])) ?_
      first | refine R.cstoreAll hs rfl rfl Try.sz52 (by first | rfl | assumption | exact encV_len _ | exact Enc.len _ | exact len_ub (by assumption) | simp [*]) (by first | rfl | assumption | exact encV_len _ | exact Enc.len _ | exact len_ub (by assumption) | simp [*]) (by first | assumption | exact OneL.all | exact Enc.one _ | exact ub_all _ | (repeat' (first | refine List.forall_mem_cons.2 ⟨?_, ?_⟩ | exact List.forall_mem_nil _ | rfl | exact OneC.one | exact KRow.oneC' (by assumption)))) ?_ | refine R.cstore hs rfl rfl Try.sz52 (by first | rfl | assumption | exact encV_len _ | exact Enc.len _ | exact len_ub (by assumption) | simp [*]) (by simp [*]) (by first | assumption | exact OneL.all | exact Enc.one _ | exact ub_all _ | (repeat' (first | refine List.forall_mem_cons.2 ⟨?_, ?_⟩ | exact List.forall_mem_nil _ | rfl | exact OneC.one | exact KRow.oneC' (by assumption)))) ?_
      intro w2_1 hs
      try simp only [List.set_cons_zero, List.set_cons_succ] at hs
      refine R.ev rfl (E.assign rfl) ?_
      refine R.done ?_
      refine X.keep [(4, _), (5, _)] ⟨rfl, rfl, trivial⟩ ?_
      refine X.next ?_
      refine C.ret ?_
      refine X.thenRet ?_
      refine X.resCT rfl rfl Try.underlying52 rfl Try.sz52 (by first | exact ⟨hs.ldA, by first | rfl | assumption | exact encV_len _ | exact Enc.len _ | exact len_ub (by assumption)⟩ | exact ⟨hs.ldP rfl, by first | rfl | assumption | exact encV_len _ | exact Enc.len _ | exact len_ub (by assumption)⟩ | exact ⟨by assumption, by first | rfl | assumption | exact encV_len _ | exact Enc.len _ | exact len_ub (by assumption)⟩) rfl ?_
      have hn : newOk c wt = false := by simp_all [newOk, isCap, isWt]; try omega
      rw [rnewE, hn]
      exact ⟨rfl, hs.to⟩
    · refine R.gyes rfl rfl ?_
      refine R.ev rfl (E.move rfl) ?_
      refine R.gyes rfl rfl ?_
      refine R.ev rfl (E.lss rfl rfl) ?_
      refine R.ev rfl (E.pickF rfl rfl) ?_
      refine R.ev rfl (E.move rfl) ?_
      refine R.split 16 rfl (fun h16 => ?_) (fun h16 => ?_)
      · refine R.gskip rfl rfl rfl ?_
        refine R.gskip rfl rfl rfl ?_
        refine R.ev rfl (E.pickT rfl rfl) ?_
        refine R.done ?_
        refine X.keep [(0, _), (1, _), (4, _), (19, _)] ⟨rfl, rfl, rfl, rfl, trivial⟩ ?_
        refine X.next ?_
        refine C.ctrue rfl ?_
        refine C.seq ?_
        refine C.region ?_
        refine R.ev rfl (E.buildG (r := [.int .i64 0, .int .i64 0, .bool false, .slice none 0 0]) rfl Try.underlying52 Try.zr52 Try.ql52 (by kernel_rfl) (by kernel_rfl) trivial (by first | rfl | simp [setF, fieldsOf, Value.cells])) ?_
        first | refine R.cstoreAll hs rfl rfl Try.sz52 (by first | rfl | assumption | exact encV_len _ | exact Enc.len _ | exact len_ub (by assumption) | simp [*]) (by first | rfl | assumption | exact encV_len _ | exact Enc.len _ | exact len_ub (by assumption) | simp [*]) (by first | assumption | exact OneL.all | exact Enc.one _ | exact ub_all _ | (repeat' (first | refine List.forall_mem_cons.2 ⟨?_, ?_⟩ | exact List.forall_mem_nil _ | rfl | exact OneC.one | exact KRow.oneC' (by assumption)))) ?_ | refine R.cstore hs rfl rfl Try.sz52 (by first | rfl | assumption | exact encV_len _ | exact Enc.len _ | exact len_ub (by assumption) | simp [*]) (by simp [*]) (by first | assumption | exact OneL.all | exact Enc.one _ | exact ub_all _ | (repeat' (first | refine List.forall_mem_cons.2 ⟨?_, ?_⟩ | exact List.forall_mem_nil _ | rfl | exact OneC.one | exact KRow.oneC' (by assumption)))) ?_
        intro w2_1 hs
        try simp only [List.set_cons_zero, List.set_cons_succ] at hs
        refine R.ev rfl (E.assign rfl) ?_
        refine R.done ?_
        refine X.keep [(4, _), (5, _)] ⟨rfl, rfl, trivial⟩ ?_
        refine X.next ?_
        refine C.ret ?_
        refine X.thenRet ?_
        refine X.resCT rfl rfl Try.underlying52 rfl Try.sz52 (by first | exact ⟨hs.ldA, by first | rfl | assumption | exact encV_len _ | exact Enc.len _ | exact len_ub (by assumption)⟩ | exact ⟨hs.ldP rfl, by first | rfl | assumption | exact encV_len _ | exact Enc.len _ | exact len_ub (by assumption)⟩ | exact ⟨by assumption, by first | rfl | assumption | exact encV_len _ | exact Enc.len _ | exact len_ub (by assumption)⟩) rfl ?_
        have hn : newOk c wt = false := by simp_all [newOk, isCap, isWt]; try omega
        rw [rnewE, hn]
        exact ⟨rfl, hs.to⟩
      · refine R.gyes rfl rfl ?_
        refine R.ev rfl (E.move rfl) ?_
        refine R.gyes rfl rfl ?_
        refine R.ev rfl (E.gtr rfl rfl) ?_
        refine R.ev rfl (E.pickF rfl rfl) ?_
        refine R.done ?_
        refine X.keep [(0, _), (1, _), (4, _), (19, _)] ⟨rfl, rfl, rfl, rfl, trivial⟩ ?_
        refine X.next ?_
        refine C.cdec rfl (fun h19 => ?_) (fun h19 => ?_)
        · refine C.seq ?_
          refine C.region ?_
          refine R.ev rfl (E.buildG (r := [.int .i64 0, .int .i64 0, .bool false, .slice none 0 0]) rfl Try.underlying52 Try.zr52 Try.ql52 (by kernel_rfl) (by kernel_rfl) trivial (by first | rfl | simp [setF, fieldsOf, Value.cells])) ?_
          first | refine R.cstoreAll hs rfl rfl Try.sz52 (by first | rfl | assumption | exact encV_len _ | exact Enc.len _ | exact len_ub (by assumption) | simp [*]) (by first | rfl | assumption | exact encV_len _ | exact Enc.len _ | exact len_ub (by assumption) | simp [*]) (by first | assumption | exact OneL.all | exact Enc.one _ | exact ub_all _ | (repeat' (first | refine List.forall_mem_cons.2 ⟨?_, ?_⟩ | exact List.forall_mem_nil _ | rfl | exact OneC.one | exact KRow.oneC' (by assumption)))) ?_ | refine R.cstore hs rfl rfl Try.sz52 (by first | rfl | assumption | exact encV_len _ | exact Enc.len _ | exact len_ub (by assumption) | simp [*]) (by simp [*]) (by first | assumption | exact OneL.all | exact Enc.one _ | exact ub_all _ | (repeat' (first | refine List.forall_mem_cons.2 ⟨?_, ?_⟩ | exact List.forall_mem_nil _ | rfl | exact OneC.one | exact KRow.oneC' (by assumption)))) ?_
          intro w2_1 hs
          try simp only [List.set_cons_zero, List.set_cons_succ] at hs
          refine R.ev rfl (E.assign rfl) ?_
          refine R.done ?_
          refine X.keep [(4, _), (5, _)] ⟨rfl, rfl, trivial⟩ ?_
          refine X.next ?_
          refine C.ret ?_
          refine X.thenRet ?_
          refine X.resCT rfl rfl Try.underlying52 rfl Try.sz52 (by first | exact ⟨hs.ldA, by first | rfl | assumption | exact encV_len _ | exact Enc.len _ | exact len_ub (by assumption)⟩ | exact ⟨hs.ldP rfl, by first | rfl | assumption | exact encV_len _ | exact Enc.len _ | exact len_ub (by assumption)⟩ | exact ⟨by assumption, by first | rfl | assumption | exact encV_len _ | exact Enc.len _ | exact len_ub (by assumption)⟩) rfl ?_
          have hn : newOk c wt = false := by simp_all [newOk, isCap, isWt]; try omega
          rw [rnewE, hn]
          exact ⟨rfl, hs.to⟩
        · refine C.skip ?_
          refine X.next ?_
          refine C.seq ?_
          refine C.region ?_
          refine R.ev rfl (E.move rfl) ?_
          refine R.ev rfl (E.move rfl) ?_
          refine R.ev rfl (E.buildG (r := [.int .i64 c, .int .i64 wt, .bool false, .slice none 0 0]) rfl Try.underlying52 Try.zr52 Try.ql52 (by kernel_rfl) (by kernel_rfl) ⟨⟨_, rfl, by first | rfl | exact vsz _ | simp [Value.cells, *]⟩, ⟨_, rfl, by first | rfl | exact vsz _ | simp [Value.cells, *]⟩, trivial⟩ (by first | rfl | simp [setF, fieldsOf, Value.cells])) ?_
          first | refine R.cstoreAll hs rfl rfl Try.sz52 (by first | rfl | assumption | exact encV_len _ | exact Enc.len _ | exact len_ub (by assumption) | simp [*]) (by first | rfl | assumption | exact encV_len _ | exact Enc.len _ | exact len_ub (by assumption) | simp [*]) (by first | assumption | exact OneL.all | exact Enc.one _ | exact ub_all _ | (repeat' (first | refine List.forall_mem_cons.2 ⟨?_, ?_⟩ | exact List.forall_mem_nil _ | rfl | exact OneC.one | exact KRow.oneC' (by assumption)))) ?_ | refine R.cstore hs rfl rfl Try.sz52 (by first | rfl | assumption | exact encV_len _ | exact Enc.len _ | exact len_ub (by assumption) | simp [*]) (by simp [*]) (by first | assumption | exact OneL.all | exact Enc.one _ | exact ub_all _ | (repeat' (first | refine List.forall_mem_cons.2 ⟨?_, ?_⟩ | exact List.forall_mem_nil _ | rfl | exact OneC.one | exact KRow.oneC' (by assumption)))) ?_
          intro w3_3 hs
          try simp only [List.set_cons_zero, List.set_cons_succ] at hs
          refine R.ev rfl (E.assign rfl) ?_
          refine R.done ?_
          refine X.keep [(4, _), (5, _)] ⟨rfl, rfl, trivial⟩ ?_
          refine X.next ?_
          refine C.ret ?_
          refine X.resCT rfl rfl Try.underlying52 rfl Try.sz52 (by first | exact ⟨hs.ldA, by first | rfl | assumption | exact encV_len _ | exact Enc.len _ | exact len_ub (by assumption)⟩ | exact ⟨hs.ldP rfl, by first | rfl | assumption | exact encV_len _ | exact Enc.len _ | exact len_ub (by assumption)⟩ | exact ⟨by assumption, by first | rfl | assumption | exact encV_len _ | exact Enc.len _ | exact len_ub (by assumption)⟩) rfl ?_
          have hn : newOk c wt = true := by simp_all [newOk, isCap, isWt]; try omega
          rw [rnewE, hn]
          exact ⟨rfl, hs.to⟩
theorem rfind2_any (a : Vec 32) (hs : Sat K w Hs) [hr : Rd encRE 35 K Hs v s.L] (hL : s.L.length ≤ 1000000) : Ret Try.prog 61 #[s.v v, idV a.1] w fun r w' => r = .int .i64 (idxP (rIs a) s.L) ∧ Sat K w' Hs := by
  obtain ⟨c, wt, inc, L⟩ := s
  simp only at hr hL ⊢
  obtain ⟨ad, cap, rfl, hc, _⟩ := hr.ex
  have e1 := encV_len a
  refine Ret.enter (n := 22) (args := [.agg #[.int .i64 c, .int .i64 wt, .bool inc, .slice ad L.length cap], idV a.1]) Try.func61 rfl rfl ?_
  refine C.keep [(0, _), (1, _)] ⟨rfl, rfl, trivial⟩ ?_
  refine C.seq ?_
  refine C.region ?_
  refine R.sboxA hs rfl rfl ?_
  intro b2 w2 hs
  refine R.sboxA hs rfl rfl ?_
  intro b3 w3 hs
  refine R.ev rfl (E.assign rfl) ?_
  refine R.done ?_
  refine X.keep [(2, _), (3, _)] ⟨rfl, rfl, trivial⟩ ?_
  refine X.next ?_
  refine C.seq ?_
  refine C.seq ?_
  refine C.region ?_
  refine R.ev rfl (E.assign rfl) ?_
  refine R.done ?_
  refine X.keep [(2, _), (3, _), (5, _)] ⟨rfl, rfl, rfl, trivial⟩ ?_
  refine X.next ?_
  refine C.block ?_
  refine C.loop  [(2, _), (3, _)] (fun k => [(5, .int .i64 (k : Nat))]) (fun k w' => k ≤ L.length ∧ Sat K w' (row b3 29 (a.1.map ub) :: row b2 52 [.int .i64 c, .int .i64 wt, .bool inc, .slice ad L.length cap] :: Hs) ∧ ∀ j, j < k → ∀ y, L[j]? = some y → rIs a y = false) (fun k => L.length - k) (0) ⟨rfl, rfl, rfl, trivial⟩ ⟨Nat.zero_le _, hs, fun j h => by omega⟩ ?_
  rintro k w1 ⟨hk, hs, hno⟩
  refine C.keep [(2, _), (3, _), (5, _)] ⟨rfl, rfl, rfl, trivial⟩ ?_
  refine C.seq ?_
  refine C.seq ?_
  refine C.region ?_
  refine R.ev rfl (E.move rfl) ?_
  first | refine R.ev rfl (E.fieldAddr0 3 rfl Try.underlying52 rfl Try.sz50 rfl) ?_ | refine R.ev rfl (E.fieldAddrN 3 rfl Try.underlying52 rfl Try.sz50 rfl) ?_
  refine R.ev rfl (E.load1 rfl Try.underlying50 rfl (by first | exact hs.ldc | exact hs.ld rfl | exact hs.ld (by assumption) | exact by assumption | exact At.cellC (by assumption))) ?_
  refine R.ev rfl (E.lenSl rfl Try.underlying50) ?_
  refine R.ev rfl (E.lss rfl rfl) ?_
  refine R.done ?_
  refine X.keep [(2, _), (3, _), (5, _), (10, _)] ⟨rfl, rfl, rfl, rfl, trivial⟩ ?_
  refine X.next ?_
  refine C.cdec rfl (fun h10 => ?_) (fun h10 => ?_)
  · obtain ⟨y, bk_y, of_y, hy, my, ly, rfl, Ay⟩ := hs.el (i := k) (ad := ad) (n := L.length) (c := cap) (by omega)
    have ay := Ay _ hs
    have e2 := encV_len y.id
    refine C.skip ?_
    refine X.next ?_
    refine C.seq ?_
    refine C.block ?_
    refine C.seq ?_
    refine C.drawn (SatS hs) ([1, 5, 6], [0, 2, 3, 4, 7]) (by kernel_rfl) ?_
    have hs := hs.drew
    first | refine D.evP 0 rfl (by kernel_rfl) rfl (fun _ => hs.to) (fun _ => E.fieldAddr0 3 rfl Try.underlying52 rfl Try.sz50 rfl) ?_ | refine D.evP 0 rfl (by kernel_rfl) rfl (fun _ => hs.to) (fun _ => E.fieldAddrN 3 rfl Try.underlying52 rfl Try.sz50 rfl) ?_
    refine D.evP 2 rfl (by kernel_rfl) rfl (fun _ => hs.to) (fun _ => E.move rfl) ?_
    refine D.ev 1 rfl (by kernel_rfl) rfl hs.to (fun _ hS => E.load1 rfl Try.underlying50 rfl (by first | exact hS.ldc | exact hS.ld rfl | exact hS.ld (by assumption) | exact by assumption | exact At.cellC (by assumption) | exact At.cellC ((by assumption : ∀ w', Sat _ w' _ → At w' _ _ _) _ hS) | exact (by assumption : ∀ w', Sat _ w' _ → World.cell? w' _ = some _) _ hS)) ?_
    refine D.evP 3 rfl (by kernel_rfl) rfl (fun _ => hs.to) (fun _ => E.indexAddr rfl rfl Try.underlying50 Try.sz90 rfl (by first | omega | decide)) ?_
    first | refine D.evP 4 rfl (by kernel_rfl) rfl (fun _ => hs.to) (fun _ => E.fieldAddr0 0 rfl Try.underlying90 rfl Try.sz29 rfl) ?_ | refine D.evP 4 rfl (by kernel_rfl) rfl (fun _ => hs.to) (fun _ => E.fieldAddrN 0 rfl Try.underlying90 rfl Try.sz29 rfl) ?_
    refine D.ev 5 rfl (by kernel_rfl) rfl hs.to (fun _ hS => E.loadRow (cs := y.id.1.map ub) rfl Try.underlying29 rfl Try.sz29 (Ay _ hS).app.1 e2) ?_
    refine D.ev 6 rfl (by kernel_rfl) rfl hs.to (fun _ hS => E.loadRowC rfl Try.underlying29 rfl Try.sz29 (by first | exact ⟨hS.ldA, by first | rfl | assumption | exact encV_len _ | exact Enc.len _ | exact len_ub (by assumption)⟩ | exact ⟨hS.ldP rfl, by first | rfl | assumption | exact encV_len _ | exact Enc.len _ | exact len_ub (by assumption)⟩ | exact ⟨hS.ldM rfl rfl, by first | rfl | assumption | exact encV_len _ | exact Enc.len _ | exact len_ub (by assumption)⟩ | exact ⟨hS.ldM (by assumption) (by first | rfl | assumption), by first | rfl | assumption | exact encV_len _ | exact Enc.len _ | exact len_ub (by assumption)⟩ | exact ⟨by assumption, by first | rfl | assumption | exact encV_len _ | exact Enc.len _ | exact len_ub (by assumption)⟩ | exact ⟨(by assumption : ∀ w', Sat _ w' _ → At w' _ _ _) _ hS, by first | rfl | assumption | exact encV_len _ | exact Enc.len _ | exact len_ub (by assumption)⟩ | exact hS.ldp | exact At.partC (by assumption) | exact At.partC ((by assumption : ∀ w', Sat _ w' _ → At w' _ _ _) _ hS))) ?_
    refine D.evP 7 rfl (by kernel_rfl) rfl (fun _ => hs.to) (fun _ => (E.eqV 10 (a := y.id) (b := a) rfl rfl Try.lv29 rfl Try.underlying29 rfl Try.gd29)) ?_
    refine D.done rfl (by kernel_rfl) ?_
    refine X.keep [(2, _), (3, _), (5, _), (20, _)] ⟨rfl, rfl, rfl, rfl, trivial⟩ ?_
    refine X.next ?_
    refine C.cbool rfl (fun h20 => ?_) (fun h20 => ?_)
    · refine C.seq ?_
      refine C.region ?_
      refine R.ev rfl (E.move rfl) ?_
      refine R.ev rfl (E.assign rfl) ?_
      refine R.done ?_
      refine X.keep [(4, _)] ⟨rfl, trivial⟩ ?_
      refine X.next ?_
      refine C.ret ?_
      refine X.blockRet ?_
      refine X.thenRet ?_
      refine X.loopRet ?_
      refine X.blockRet ?_
      refine X.thenRet ?_
      refine X.ret1 rfl rfl ?_
      exact ⟨by rw [idxP_some (p := rIs a) hy h20 hno], hs.to⟩
    · refine C.skip ?_
      refine X.blockNormal ?_
      refine X.next ?_
      refine C.region ?_
      refine R.ev rfl (E.move rfl) ?_
      refine R.ev rfl (E.add rfl rfl (by omega) (by omega)) ?_
      refine R.ev rfl (E.assign rfl) ?_
      refine R.done ?_
      refine X.keep [(2, _), (3, _), (5, _)] ⟨rfl, rfl, rfl, trivial⟩ ?_
      exact X.again (k + 1) ⟨rfl, rfl, rfl, trivial⟩ ⟨by omega, hs.to, idxP_step (p := rIs a) hy h20 hno⟩ (by omega)
  · refine C.exit ?_
    refine X.thenExit ?_
    refine X.loopExit ?_
    refine X.blockExit ?_
    refine X.next ?_
    refine C.seq ?_
    refine C.region ?_
    refine R.ev rfl (E.assign rfl) ?_
    refine R.done ?_
    refine X.keep [(4, _)] ⟨rfl, trivial⟩ ?_
    refine X.next ?_
    refine C.ret ?_
    refine X.ret1 rfl rfl ?_
    exact ⟨by rw [idxP_none (p := rIs a) hno (by omega)], hs.to⟩
/-! the steps, plainly -/
section
variable {R : List UInt8} {L : List Ent}
theorem s1_short (h : R.length < 32) : (dStep (⟨R, 0⟩, L)).1.err = 23 := by
  have e : (dS1 (⟨R, 0⟩, L)).err = 23 := by
    have := go_short (r := ⟨R, 0⟩) rfl h
    rw [dS1, req_err (by rw [this]; decide), this]
  rw [dStep_1 (by rw [e]; decide), e]
theorem dId_eq (h : 32 ≤ R.length) : (dId (⟨R, 0⟩, L)).1 = R.take 32 := bs_good (r := ⟨R, 0⟩) rfl h
theorem s1_bad (h : 32 ≤ R.length) (hb : (decide (dId (⟨R, 0⟩, L) = zid) || has (dId (⟨R, 0⟩, L)) L) = true) : (dStep (⟨R, 0⟩, L)).1.err = 3 := by
  have hb' : (decide (dId (⟨R, 0⟩, L) ≠ zid) && !has (dId (⟨R, 0⟩, L)) L) = false := by
    rw [Bool.or_eq_true, decide_eq_true_eq] at hb
    rcases hb with h | h <;> simp [h]
  have e : (dS1 (⟨R, 0⟩, L)).err = 3 := by rw [dS1, hb']; exact req_F (by rw [go_good (r := ⟨R, 0⟩) rfl h])
  rw [dStep_1 (by rw [e]; decide), e]
theorem s1_ok (h : 32 ≤ R.length) (hb : (decide (dId (⟨R, 0⟩, L) = zid) || has (dId (⟨R, 0⟩, L)) L) = false) : dS1 (⟨R, 0⟩, L) = ⟨R.drop 32, 0⟩ := by
  have hb' : (decide (dId (⟨R, 0⟩, L) ≠ zid) && !has (dId (⟨R, 0⟩, L)) L) = true := by
    rw [Bool.or_eq_false_iff, decide_eq_false_iff_not] at hb
    simp [hb.1, hb.2]
  rw [dS1, hb', req_T, go_good (r := ⟨R, 0⟩) rfl h]
end
def RDPost (K : Kn) (Hs : List Hl) (P : List UInt8) (r : Value) (w' : World) : Prop := ∃ K' s v', r = .tuple #[RB.v s v', .int .i64 (decE P)] ∧ KLe K K' ∧ (decE P = 0 → s = vw (decS P)) ∧ KRow encRE 35 K' v' s.L ∧ Sat K' w' Hs
theorem RDPost.err {e : Int} (he : decE P = e) (h0 : e ≠ 0) (hs : Sat K w Hs) : RDPost K Hs P (.tuple #[RB.v ⟨0, 0, false, []⟩ (.slice none 0 0), .int .i64 e]) w := ⟨K, _, _, by rw [he], KLe.refl K, fun h => absurd (he ▸ h) h0, KRow.nil, hs⟩
end Go.Proofs.Ytoidpcmcbmioiaa
