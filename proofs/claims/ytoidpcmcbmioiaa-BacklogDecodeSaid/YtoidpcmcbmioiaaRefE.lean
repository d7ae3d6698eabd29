/-
  package bulletinref38: Decode.
-/
import Derived.Test.YtoidpcmcbmioiaaRefD
namespace Go.Proofs.Ytoidpcmcbmioiaa
open Go.Eng Go.RowKit

variable {K : Kn} {Hs Rs : List Hl} {F : Hl} {w : World} {s : RB} {v : Value} {P : List UInt8}
def toRE (e : Ent) : RE := ⟨e.id, e.due, e.tries, false⟩
theorem rHas_to {a : Vec 32} {L : List Ent} : rHas a (L.map toRE) = has a L := by
  unfold rHas has
  rw [List.any_map]; rfl
theorem isCap_q (n : Int) (h : isCap n = true) : 0 ≤ n ∧ n < 281474976710656 := by have := isCap_nn h; omega
theorem isWt_q (n : Int) (h : isWt n = true) : 0 ≤ n ∧ n < 281474976710656 := by have := isWt_nn h; omega
theorem isMin_q (n : Int) (h : isMin n = true) : 0 ≤ n ∧ n < 281474976710656 := by have := isMin_nn h; omega
theorem isTr_q (n : Int) (h : isTr n = true) : 0 ≤ n ∧ n < 281474976710656 := by have := isTr_nn h; omega
theorem upTo_q {c : Int} (hc : c ≤ 4096) (n : Int) (h : upTo c n = true) : 0 ≤ n ∧ n < 281474976710656 := by have := upTo_nn h; omega
theorem encRE_due (o : RE) (d : Int) : (encRE o).set 32 (.int .i64 d) = encRE ⟨o.id, d, o.tries, o.out⟩ := by
  rw [encRE, encRE, List.set_append_right _ _ (by rw [List.length_map, o.id.2]; omega), List.length_map, o.id.2]; rfl
theorem encRE_tries (o : RE) (d : Int) : (encRE o).set 33 (.int .i64 d) = encRE ⟨o.id, o.due, d, o.out⟩ := by
  rw [encRE, encRE, List.set_append_right _ _ (by rw [List.length_map, o.id.2]; omega), List.length_map, o.id.2]; rfl
/-- an identity that is being filled in -/
def part (l : List UInt8) (k : Nat) : List Value := (l.take k ++ List.replicate (32 - k) 0).map ub ++ [.int .i64 0, .int .i64 0, .bool false]
theorem part_len {l : List UInt8} {k : Nat} (hl : l.length = 32) (hk : k ≤ 32) : (part l k).length = 35 := by
  simp [part, hl]; omega
theorem part_set {l : List UInt8} {k : Nat} {c : UInt8} (hl : l.length = 32) (hk : k < 32) (hc : l[k]? = some c) : (part l k).set (0 + k * 1) (ub c) = part l (k + 1) := by
  rw [Nat.zero_add, Nat.mul_one, part, part, List.set_append_left _ _ (by simp [hl]; omega)]
  congr 1
  rw [show ub c = (fun b => ub b) c from rfl, ← List.map_set]
  congr 1
  rw [List.set_append_right _ _ (by simp [hl]; omega), take_snoc hc, List.length_take, hl, Nat.min_eq_left (by omega), Nat.sub_self, show 32 - k = (32 - (k + 1)) + 1 by omega, List.replicate_succ, List.set_cons_zero]
  simp
theorem part_done {l : List UInt8} (hl : l.length = 32) : part l 32 = encRE ⟨⟨l, hl⟩, 0, 0, false⟩ := by
  rw [part, List.take_of_length_le (by omega)]; simp [encRE]
theorem upTo_T {c n : Int} (h : decide (n < 0) = true) : Value.bool true = Value.bool (!(upTo c n)) := by
  have := of_decide_eq_true h
  rw [upTo, decide_eq_false (by omega)]; rfl
theorem upTo_F {c n : Int} (h : decide (n < 0) = false) : Value.bool (decide (c < n)) = Value.bool (!(upTo c n)) := by
  have := of_decide_eq_false h
  have h0 : decide (0 ≤ n) = true := decide_eq_true (by omega)
  rw [upTo, h0, Bool.true_and, ← decide_not]
  congr 1
  rw [decide_eq_decide]; omega
theorem rdecode_any (hs : Sat K w Hs) [hr : KRow encB 1 K v P] (hP : P.length ≤ 2000) : Ret Try.prog 31 #[v] w (RDPost K Hs P) := by
  obtain ⟨ad, cap, rfl, hsl, hc⟩ := hr.ex
  refine Ret.enter (n := 156) (args := [.slice ad P.length cap]) Try.func31 rfl rfl ?_
  refine C.keep [(0, _)] ⟨rfl, trivial⟩ ?_
  refine C.seq ?_
  refine C.region ?_
  refine R.sallocA hs Try.zr52 rfl ?_
  intro b2 w2 hs
  refine R.ev rfl (E.assign rfl) ?_
  refine R.done ?_
  refine X.keep [(0, _), (2, _)] ⟨rfl, rfl, trivial⟩ ?_
  refine X.next ?_
  refine C.seq ?_
  refine C.seq ?_
  refine C.region ?_
  refine R.ev rfl (E.move rfl) ?_
  refine R.ev rfl (E.lenSl rfl Try.underlying57) ?_
  refine R.ev rfl (E.lss rfl rfl) ?_
  refine R.done ?_
  refine X.keep [(0, _), (2, _), (15, _)] ⟨rfl, rfl, rfl, trivial⟩ ?_
  refine X.next ?_
  refine C.cdec rfl (fun h15 => ?_) (fun h15 => ?_)
  · refine C.seq ?_
    refine C.region ?_
    refine R.ev rfl (E.buildG (r := [.int .i64 0, .int .i64 0, .bool false, .slice none 0 0]) rfl Try.underlying52 Try.zr52 Try.ql52 (by kernel_rfl) (by kernel_rfl) trivial (by first | rfl | simp [setF, fieldsOf, Value.cells])) ?_
    first | refine R.cstoreAll hs rfl rfl Try.sz52 (by first | rfl | assumption | exact encV_len _ | exact Enc.len _ | exact len_ub (by assumption) | simp [*]) (by first | rfl | assumption | exact encV_len _ | exact Enc.len _ | exact len_ub (by assumption) | simp [*]) (by first | assumption | exact OneL.all | exact Enc.one _ | exact ub_all _ | (repeat' (first | refine List.forall_mem_cons.2 ⟨?_, ?_⟩ | exact List.forall_mem_nil _ | rfl | exact OneC.one | exact KRow.oneC' (by assumption)))) ?_ | refine R.cstore hs rfl rfl Try.sz52 (by first | rfl | assumption | exact encV_len _ | exact Enc.len _ | exact len_ub (by assumption) | simp [*]) (by simp [*]) (by first | assumption | exact OneL.all | exact Enc.one _ | exact ub_all _ | (repeat' (first | refine List.forall_mem_cons.2 ⟨?_, ?_⟩ | exact List.forall_mem_nil _ | rfl | exact OneC.one | exact KRow.oneC' (by assumption)))) ?_
    intro w2_1 hs
    try simp only [List.set_cons_zero, List.set_cons_succ] at hs
    refine R.ev rfl (E.assign rfl) ?_
    refine R.done ?_
    refine X.keep [(2, _), (3, _)] ⟨rfl, rfl, trivial⟩ ?_
    refine X.next ?_
    refine C.ret ?_
    refine X.thenRet ?_
    refine X.resCT rfl rfl Try.underlying52 rfl Try.sz52 (by first | exact ⟨hs.ldA, by first | rfl | assumption | exact encV_len _ | exact Enc.len _ | exact len_ub (by assumption)⟩ | exact ⟨hs.ldP rfl, by first | rfl | assumption | exact encV_len _ | exact Enc.len _ | exact len_ub (by assumption)⟩ | exact ⟨by assumption, by first | rfl | assumption | exact encV_len _ | exact Enc.len _ | exact len_ub (by assumption)⟩) rfl ?_
    have e : (dH1 P).err = 23 := num_short (r := ⟨P, 0⟩) rfl (show P.length < 8 by omega)
    exact RDPost.err (by rw [decE_1 (by rw [e]; decide), e]) (by decide) hs.to
  · refine C.skip ?_
    refine X.next ?_
    refine C.seq ?_
    refine C.seq ?_
    refine C.region ?_
    refine R.ev rfl (E.move rfl) ?_
    refine R.call ⟨_, _, Try.func60, rfl, by kernel_rfl⟩ rfl rfl (read_any (P := P) 0 hs (by omega) (by omega)) ?_
    rintro _ w3 ⟨rfl, hs⟩
    rw [List.drop_zero]
    have q1 := rdR_q (l := P.take 8) isCap_q
    refine R.call ⟨_, _, Try.func53, rfl, by kernel_rfl⟩ rfl rfl (rnew2_any _ 0 hs) ?_
    rintro _ w4 ⟨rfl, hs⟩
    refine R.ev rfl (E.move rfl) ?_
    refine R.ev rfl (E.extract rfl rfl) ?_
    refine R.ev rfl (E.extract rfl rfl) ?_
    refine R.sallocA hs Try.zr52 rfl ?_
    intro b4 w4 hs
    first | refine R.cstoreAll hs rfl rfl Try.sz52 (by first | rfl | assumption | exact encV_len _ | exact Enc.len _ | exact len_ub (by assumption) | simp [*]) (by first | rfl | assumption | exact encV_len _ | exact Enc.len _ | exact len_ub (by assumption) | simp [*]) (by first | assumption | exact OneL.all | exact Enc.one _ | exact ub_all _ | (repeat' (first | refine List.forall_mem_cons.2 ⟨?_, ?_⟩ | exact List.forall_mem_nil _ | rfl | exact OneC.one | exact KRow.oneC' (by assumption)))) ?_ | refine R.cstore hs rfl rfl Try.sz52 (by first | rfl | assumption | exact encV_len _ | exact Enc.len _ | exact len_ub (by assumption) | simp [*]) (by simp [*]) (by first | assumption | exact OneL.all | exact Enc.one _ | exact ub_all _ | (repeat' (first | refine List.forall_mem_cons.2 ⟨?_, ?_⟩ | exact List.forall_mem_nil _ | rfl | exact OneC.one | exact KRow.oneC' (by assumption)))) ?_
    intro w3_7 hs
    try simp only [List.set_cons_zero, List.set_cons_succ] at hs
    refine R.ev rfl (E.assign rfl) ?_
    refine R.done ?_
    refine X.keep [(0, _), (2, _), (5, _)] ⟨rfl, rfl, rfl, trivial⟩ ?_
    refine X.next ?_
    refine C.seq ?_
    refine C.region ?_
    refine R.ev rfl (E.move rfl) ?_
    refine R.ev rfl (E.neq rfl rfl) ?_
    refine R.done ?_
    refine X.keep [(0, _), (2, _), (24, _)] ⟨rfl, rfl, rfl, trivial⟩ ?_
    refine X.next ?_
    refine C.cdec rfl (fun h24 => ?_) (fun h24 => ?_)
    · have hcb : isCap (toI (P.take 8)) = false := by rw [← q1.1]; cases hh : isCap (rdR (P.take 8)) with | false => rfl | true => simp [rnewE, newOk, hh, isWt] at h24
      refine C.seq ?_
      refine C.region ?_
      refine R.ev rfl (E.buildG (r := [.int .i64 0, .int .i64 0, .bool false, .slice none 0 0]) rfl Try.underlying52 Try.zr52 Try.ql52 (by kernel_rfl) (by kernel_rfl) trivial (by first | rfl | simp [setF, fieldsOf, Value.cells])) ?_
      first | refine R.cstoreAll hs rfl rfl Try.sz52 (by first | rfl | assumption | exact encV_len _ | exact Enc.len _ | exact len_ub (by assumption) | simp [*]) (by first | rfl | assumption | exact encV_len _ | exact Enc.len _ | exact len_ub (by assumption) | simp [*]) (by first | assumption | exact OneL.all | exact Enc.one _ | exact ub_all _ | (repeat' (first | refine List.forall_mem_cons.2 ⟨?_, ?_⟩ | exact List.forall_mem_nil _ | rfl | exact OneC.one | exact KRow.oneC' (by assumption)))) ?_ | refine R.cstore hs rfl rfl Try.sz52 (by first | rfl | assumption | exact encV_len _ | exact Enc.len _ | exact len_ub (by assumption) | simp [*]) (by simp [*]) (by first | assumption | exact OneL.all | exact Enc.one _ | exact ub_all _ | (repeat' (first | refine List.forall_mem_cons.2 ⟨?_, ?_⟩ | exact List.forall_mem_nil _ | rfl | exact OneC.one | exact KRow.oneC' (by assumption)))) ?_
      intro w5_1 hs
      try simp only [List.set_cons_zero, List.set_cons_succ] at hs
      refine R.ev rfl (E.assign rfl) ?_
      refine R.done ?_
      refine X.keep [(2, _), (3, _)] ⟨rfl, rfl, trivial⟩ ?_
      refine X.next ?_
      refine C.ret ?_
      refine X.thenRet ?_
      refine X.resCT rfl rfl Try.underlying52 rfl Try.sz52 (by first | exact ⟨hs.ldA, by first | rfl | assumption | exact encV_len _ | exact Enc.len _ | exact len_ub (by assumption)⟩ | exact ⟨hs.ldP rfl, by first | rfl | assumption | exact encV_len _ | exact Enc.len _ | exact len_ub (by assumption)⟩ | exact ⟨by assumption, by first | rfl | assumption | exact encV_len _ | exact Enc.len _ | exact len_ub (by assumption)⟩) rfl ?_
      have e : (dH1 P).err = 3 := num_bad (r := ⟨P, 0⟩) rfl (show 8 ≤ P.length by omega) hcb
      exact RDPost.err (by rw [decE_1 (by rw [e]; decide), e]) (by decide) hs.to
    · have hcb : isCap (toI (P.take 8)) = true := by rw [← q1.1]; cases hh : isCap (rdR (P.take 8)) with | true => rfl | false => simp [rnewE, newOk, hh] at h24
      refine C.skip ?_
      refine X.next ?_
      refine C.seq ?_
      refine C.seq ?_
      refine C.region ?_
      have e1 : dH1 P = ⟨P.drop 8, 0⟩ := num_good (r := ⟨P, 0⟩) rfl (show 8 ≤ P.length by omega) hcb
      have ec : dCap P = rdR (P.take 8) := by rw [q1.2 hcb]; exact val_good (r := ⟨P, 0⟩) rfl (show 8 ≤ P.length by omega)
      have hcr : isCap (rdR (P.take 8)) = true := by rw [q1.1]; exact hcb
      have hcn := isCap_nn hcr
      refine R.ev rfl (E.move rfl) ?_
      refine R.ev rfl (E.lenSl rfl Try.underlying57) ?_
      refine R.ev rfl (E.lss rfl rfl) ?_
      refine R.done ?_
      refine X.keep [(0, _), (2, _), (28, _)] ⟨rfl, rfl, rfl, trivial⟩ ?_
      refine X.next ?_
      refine C.cdec rfl (fun h28 => ?_) (fun h28 => ?_)
      · refine C.seq ?_
        refine C.region ?_
        refine R.ev rfl (E.buildG (r := [.int .i64 0, .int .i64 0, .bool false, .slice none 0 0]) rfl Try.underlying52 Try.zr52 Try.ql52 (by kernel_rfl) (by kernel_rfl) trivial (by first | rfl | simp [setF, fieldsOf, Value.cells])) ?_
        first | refine R.cstoreAll hs rfl rfl Try.sz52 (by first | rfl | assumption | exact encV_len _ | exact Enc.len _ | exact len_ub (by assumption) | simp [*]) (by first | rfl | assumption | exact encV_len _ | exact Enc.len _ | exact len_ub (by assumption) | simp [*]) (by first | assumption | exact OneL.all | exact Enc.one _ | exact ub_all _ | (repeat' (first | refine List.forall_mem_cons.2 ⟨?_, ?_⟩ | exact List.forall_mem_nil _ | rfl | exact OneC.one | exact KRow.oneC' (by assumption)))) ?_ | refine R.cstore hs rfl rfl Try.sz52 (by first | rfl | assumption | exact encV_len _ | exact Enc.len _ | exact len_ub (by assumption) | simp [*]) (by simp [*]) (by first | assumption | exact OneL.all | exact Enc.one _ | exact ub_all _ | (repeat' (first | refine List.forall_mem_cons.2 ⟨?_, ?_⟩ | exact List.forall_mem_nil _ | rfl | exact OneC.one | exact KRow.oneC' (by assumption)))) ?_
        intro w7_1 hs
        try simp only [List.set_cons_zero, List.set_cons_succ] at hs
        refine R.ev rfl (E.assign rfl) ?_
        refine R.done ?_
        refine X.keep [(2, _), (3, _)] ⟨rfl, rfl, trivial⟩ ?_
        refine X.next ?_
        refine C.ret ?_
        refine X.thenRet ?_
        refine X.resCT rfl rfl Try.underlying52 rfl Try.sz52 (by first | exact ⟨hs.ldA, by first | rfl | assumption | exact encV_len _ | exact Enc.len _ | exact len_ub (by assumption)⟩ | exact ⟨hs.ldP rfl, by first | rfl | assumption | exact encV_len _ | exact Enc.len _ | exact len_ub (by assumption)⟩ | exact ⟨by assumption, by first | rfl | assumption | exact encV_len _ | exact Enc.len _ | exact len_ub (by assumption)⟩) rfl ?_
        have e : (dH2 P).err = 23 := by rw [dH2, e1]; exact num_short rfl (by simp only [List.length_drop]; omega)
        exact RDPost.err (by rw [decE_2 (by rw [e]; decide), e]) (by decide) hs.to
      · refine C.skip ?_
        refine X.next ?_
        refine C.seq ?_
        refine C.region ?_
        refine R.ev rfl (E.move rfl) ?_
        refine R.call ⟨_, _, Try.func60, rfl, by kernel_rfl⟩ rfl rfl (read_any (P := P) 0 hs (by omega) (by omega)) ?_
        rintro _ w8 ⟨rfl, hs⟩
        rw [List.drop_zero]
        refine R.ev rfl (E.move rfl) ?_
        refine R.call ⟨_, _, Try.func60, rfl, by kernel_rfl⟩ rfl rfl (read_any (P := P) 8 hs (by omega) (by omega)) ?_
        rintro _ w9 ⟨rfl, hs⟩
        have q2 := rdR_q (l := (P.drop 8).take 8) isWt_q
        refine R.call ⟨_, _, Try.func53, rfl, by kernel_rfl⟩ rfl rfl (rnew2_any _ _ hs) ?_
        rintro _ w10 ⟨rfl, hs⟩
        refine R.ev rfl (E.move rfl) ?_
        refine R.ev rfl (E.extract rfl rfl) ?_
        refine R.ev rfl (E.extract rfl rfl) ?_
        refine R.sallocA hs Try.zr52 rfl ?_
        intro b6 w6 hs
        first | refine R.cstoreAll hs rfl rfl Try.sz52 (by first | rfl | assumption | exact encV_len _ | exact Enc.len _ | exact len_ub (by assumption) | simp [*]) (by first | rfl | assumption | exact encV_len _ | exact Enc.len _ | exact len_ub (by assumption) | simp [*]) (by first | assumption | exact OneL.all | exact Enc.one _ | exact ub_all _ | (repeat' (first | refine List.forall_mem_cons.2 ⟨?_, ?_⟩ | exact List.forall_mem_nil _ | rfl | exact OneC.one | exact KRow.oneC' (by assumption)))) ?_ | refine R.cstore hs rfl rfl Try.sz52 (by first | rfl | assumption | exact encV_len _ | exact Enc.len _ | exact len_ub (by assumption) | simp [*]) (by simp [*]) (by first | assumption | exact OneL.all | exact Enc.one _ | exact ub_all _ | (repeat' (first | refine List.forall_mem_cons.2 ⟨?_, ?_⟩ | exact List.forall_mem_nil _ | rfl | exact OneC.one | exact KRow.oneC' (by assumption)))) ?_
        intro w8_9 hs
        try simp only [List.set_cons_zero, List.set_cons_succ] at hs
        refine R.ev rfl (E.assign rfl) ?_
        refine R.done ?_
        refine X.keep [(0, _), (2, _), (6, _), (7, _)] ⟨rfl, rfl, rfl, rfl, trivial⟩ ?_
        refine X.next ?_
        refine C.seq ?_
        refine C.seq ?_
        refine C.region ?_
        refine R.ev rfl (E.move rfl) ?_
        refine R.ev rfl (E.neq rfl rfl) ?_
        refine R.done ?_
        refine X.keep [(0, _), (2, _), (6, _), (39, _)] ⟨rfl, rfl, rfl, rfl, trivial⟩ ?_
        refine X.next ?_
        refine C.cdec rfl (fun h39 => ?_) (fun h39 => ?_)
        · have hwb : isWt (toI ((P.drop 8).take 8)) = false := by rw [← q2.1]; cases hh : isWt (rdR ((P.drop 8).take 8)) with | false => rfl | true => simp [rnewE, newOk, hh, hcr] at h39
          refine C.seq ?_
          refine C.region ?_
          refine R.ev rfl (E.buildG (r := [.int .i64 0, .int .i64 0, .bool false, .slice none 0 0]) rfl Try.underlying52 Try.zr52 Try.ql52 (by kernel_rfl) (by kernel_rfl) trivial (by first | rfl | simp [setF, fieldsOf, Value.cells])) ?_
          first | refine R.cstoreAll hs rfl rfl Try.sz52 (by first | rfl | assumption | exact encV_len _ | exact Enc.len _ | exact len_ub (by assumption) | simp [*]) (by first | rfl | assumption | exact encV_len _ | exact Enc.len _ | exact len_ub (by assumption) | simp [*]) (by first | assumption | exact OneL.all | exact Enc.one _ | exact ub_all _ | (repeat' (first | refine List.forall_mem_cons.2 ⟨?_, ?_⟩ | exact List.forall_mem_nil _ | rfl | exact OneC.one | exact KRow.oneC' (by assumption)))) ?_ | refine R.cstore hs rfl rfl Try.sz52 (by first | rfl | assumption | exact encV_len _ | exact Enc.len _ | exact len_ub (by assumption) | simp [*]) (by simp [*]) (by first | assumption | exact OneL.all | exact Enc.one _ | exact ub_all _ | (repeat' (first | refine List.forall_mem_cons.2 ⟨?_, ?_⟩ | exact List.forall_mem_nil _ | rfl | exact OneC.one | exact KRow.oneC' (by assumption)))) ?_
          intro w10_1 hs
          try simp only [List.set_cons_zero, List.set_cons_succ] at hs
          refine R.ev rfl (E.assign rfl) ?_
          refine R.done ?_
          refine X.keep [(2, _), (3, _)] ⟨rfl, rfl, trivial⟩ ?_
          refine X.next ?_
          refine C.ret ?_
          refine X.thenRet ?_
          refine X.resCT rfl rfl Try.underlying52 rfl Try.sz52 (by first | exact ⟨hs.ldA, by first | rfl | assumption | exact encV_len _ | exact Enc.len _ | exact len_ub (by assumption)⟩ | exact ⟨hs.ldP rfl, by first | rfl | assumption | exact encV_len _ | exact Enc.len _ | exact len_ub (by assumption)⟩ | exact ⟨by assumption, by first | rfl | assumption | exact encV_len _ | exact Enc.len _ | exact len_ub (by assumption)⟩) rfl ?_
          have e : (dH2 P).err = 3 := by rw [dH2, e1]; exact num_bad rfl (by simp only [List.length_drop]; omega) hwb
          exact RDPost.err (by rw [decE_2 (by rw [e]; decide), e]) (by decide) hs.to
        · have hwb : isWt (toI ((P.drop 8).take 8)) = true := by rw [← q2.1]; cases hh : isWt (rdR ((P.drop 8).take 8)) with | true => rfl | false => simp [rnewE, newOk, hh, hcr] at h39
          refine C.skip ?_
          refine X.next ?_
          refine C.seq ?_
          refine C.seq ?_
          refine C.region ?_
          have e2 : dH2 P = ⟨P.drop 16, 0⟩ := by rw [dH2, e1, num_good rfl (by simp only [List.length_drop]; omega) hwb]; simp only [List.drop_drop]
          have ew : dWt P = rdR ((P.drop 8).take 8) := by rw [q2.2 hwb, dWt, e1]; exact val_good rfl (by simp only [List.length_drop]; omega)
          have hwr : isWt (rdR ((P.drop 8).take 8)) = true := by rw [q2.1]; exact hwb
          have hnk : newOk (rdR (P.take 8)) (rdR ((P.drop 8).take 8)) = true := by rw [newOk, hcr, hwr]; rfl
          rw [if_pos hnk] at hs
          rw [← ec, ← ew] at hs
          rw [← ec] at hcn
          refine R.ev rfl (E.move rfl) ?_
          refine R.ev rfl (E.lenSl rfl Try.underlying57) ?_
          refine R.ev rfl (E.lss rfl rfl) ?_
          refine R.done ?_
          refine X.keep [(0, _), (2, _), (6, _), (43, _)] ⟨rfl, rfl, rfl, rfl, trivial⟩ ?_
          refine X.next ?_
          refine C.cdec rfl (fun h43 => ?_) (fun h43 => ?_)
          · refine C.seq ?_
            refine C.region ?_
            refine R.ev rfl (E.buildG (r := [.int .i64 0, .int .i64 0, .bool false, .slice none 0 0]) rfl Try.underlying52 Try.zr52 Try.ql52 (by kernel_rfl) (by kernel_rfl) trivial (by first | rfl | simp [setF, fieldsOf, Value.cells])) ?_
            first | refine R.cstoreAll hs rfl rfl Try.sz52 (by first | rfl | assumption | exact encV_len _ | exact Enc.len _ | exact len_ub (by assumption) | simp [*]) (by first | rfl | assumption | exact encV_len _ | exact Enc.len _ | exact len_ub (by assumption) | simp [*]) (by first | assumption | exact OneL.all | exact Enc.one _ | exact ub_all _ | (repeat' (first | refine List.forall_mem_cons.2 ⟨?_, ?_⟩ | exact List.forall_mem_nil _ | rfl | exact OneC.one | exact KRow.oneC' (by assumption)))) ?_ | refine R.cstore hs rfl rfl Try.sz52 (by first | rfl | assumption | exact encV_len _ | exact Enc.len _ | exact len_ub (by assumption) | simp [*]) (by simp [*]) (by first | assumption | exact OneL.all | exact Enc.one _ | exact ub_all _ | (repeat' (first | refine List.forall_mem_cons.2 ⟨?_, ?_⟩ | exact List.forall_mem_nil _ | rfl | exact OneC.one | exact KRow.oneC' (by assumption)))) ?_
            intro w12_1 hs
            try simp only [List.set_cons_zero, List.set_cons_succ] at hs
            refine R.ev rfl (E.assign rfl) ?_
            refine R.done ?_
            refine X.keep [(2, _), (3, _)] ⟨rfl, rfl, trivial⟩ ?_
            refine X.next ?_
            refine C.ret ?_
            refine X.thenRet ?_
            refine X.resCT rfl rfl Try.underlying52 rfl Try.sz52 (by first | exact ⟨hs.ldA, by first | rfl | assumption | exact encV_len _ | exact Enc.len _ | exact len_ub (by assumption)⟩ | exact ⟨hs.ldP rfl, by first | rfl | assumption | exact encV_len _ | exact Enc.len _ | exact len_ub (by assumption)⟩ | exact ⟨by assumption, by first | rfl | assumption | exact encV_len _ | exact Enc.len _ | exact len_ub (by assumption)⟩) rfl ?_
            have e : (dH3 P).err = 23 := by
              have := go_short (r := dH2 P) (n := 1) (by rw [e2]) (by rw [e2]; simp only [List.length_drop]; omega)
              rw [dH3, req_err (by rw [this]; decide), this]
            exact RDPost.err (by rw [decE_3 (by rw [e]; decide), e]) (by decide) hs.to
          · refine C.skip ?_
            refine X.next ?_
            refine C.seq ?_
            refine C.seq ?_
            refine C.region ?_
            obtain ⟨fl, bk, of, hfl, _, _, rfl, Afl⟩ := hs.el (i := 16) (ad := ad) (n := P.length) (c := cap) (by omega)
            have a16 := Afl _ hs 0 _ rfl
            have efl : dFl P = fl := by
              rw [dFl, e2, bs_good rfl (by simp only [List.length_drop]; omega)]
              simp only
              have : (P.drop 16).take 1 = [fl] := by
                have h1 := List.drop_eq_getElem_cons (l := P) (i := 16) (by omega)
                rw [h1, List.take_succ_cons, List.take_zero]
                rw [List.getElem?_eq_getElem (by omega)] at hfl
                simpa using hfl
              rw [this]; rfl
            refine R.ev rfl (E.move rfl) ?_
            refine R.ev rfl (E.indexAddr (i := 16) rfl rfl Try.underlying57 Try.sz5 rfl (by omega)) ?_
            refine R.ev rfl (E.load1 rfl Try.underlying5 rfl (Afl _ hs 0 _ rfl)) ?_
            refine R.ev rfl (E.gtr rfl rfl) ?_
            refine R.done ?_
            refine X.keep [(0, _), (2, _), (6, _), (48, _)] ⟨rfl, rfl, rfl, rfl, trivial⟩ ?_
            refine X.next ?_
            refine C.cdec rfl (fun h48 => ?_) (fun h48 => ?_)
            · refine C.seq ?_
              refine C.region ?_
              refine R.ev rfl (E.buildG (r := [.int .i64 0, .int .i64 0, .bool false, .slice none 0 0]) rfl Try.underlying52 Try.zr52 Try.ql52 (by kernel_rfl) (by kernel_rfl) trivial (by first | rfl | simp [setF, fieldsOf, Value.cells])) ?_
              first | refine R.cstoreAll hs rfl rfl Try.sz52 (by first | rfl | assumption | exact encV_len _ | exact Enc.len _ | exact len_ub (by assumption) | simp [*]) (by first | rfl | assumption | exact encV_len _ | exact Enc.len _ | exact len_ub (by assumption) | simp [*]) (by first | assumption | exact OneL.all | exact Enc.one _ | exact ub_all _ | (repeat' (first | refine List.forall_mem_cons.2 ⟨?_, ?_⟩ | exact List.forall_mem_nil _ | rfl | exact OneC.one | exact KRow.oneC' (by assumption)))) ?_ | refine R.cstore hs rfl rfl Try.sz52 (by first | rfl | assumption | exact encV_len _ | exact Enc.len _ | exact len_ub (by assumption) | simp [*]) (by simp [*]) (by first | assumption | exact OneL.all | exact Enc.one _ | exact ub_all _ | (repeat' (first | refine List.forall_mem_cons.2 ⟨?_, ?_⟩ | exact List.forall_mem_nil _ | rfl | exact OneC.one | exact KRow.oneC' (by assumption)))) ?_
              intro w14_1 hs
              try simp only [List.set_cons_zero, List.set_cons_succ] at hs
              refine R.ev rfl (E.assign rfl) ?_
              refine R.done ?_
              refine X.keep [(2, _), (3, _)] ⟨rfl, rfl, trivial⟩ ?_
              refine X.next ?_
              refine C.ret ?_
              refine X.thenRet ?_
              refine X.resCT rfl rfl Try.underlying52 rfl Try.sz52 (by first | exact ⟨hs.ldA, by first | rfl | assumption | exact encV_len _ | exact Enc.len _ | exact len_ub (by assumption)⟩ | exact ⟨hs.ldP rfl, by first | rfl | assumption | exact encV_len _ | exact Enc.len _ | exact len_ub (by assumption)⟩ | exact ⟨by assumption, by first | rfl | assumption | exact encV_len _ | exact Enc.len _ | exact len_ub (by assumption)⟩) rfl ?_
              have e : (dH3 P).err = 3 := by
                rw [dH3, efl, decide_eq_false (by omega)]
                exact req_F (by rw [e2, go_good rfl (by simp only [List.length_drop]; omega)])
              exact RDPost.err (by rw [decE_3 (by rw [e]; decide), e]) (by decide) hs.to
            · refine C.skip ?_
              refine X.next ?_
              refine C.seq ?_
              refine C.region ?_
              refine R.ev rfl (E.move rfl) ?_
              refine R.ev rfl (E.indexAddr (i := 16) rfl rfl Try.underlying57 Try.sz5 rfl (by omega)) ?_
              refine R.ev rfl (E.load1 rfl Try.underlying5 rfl (Afl _ hs 0 _ rfl)) ?_
              refine R.ev rfl ((E.eql rfl rfl).isB (c := decide (dFl P = 1)) (by rw [efl]; exact fl_eq _)) ?_
              first | refine R.ev rfl (E.fieldAddr0 2 rfl Try.underlying52 rfl Try.sz4 rfl) ?_ | refine R.ev rfl (E.fieldAddrN 2 rfl Try.underlying52 rfl Try.sz4 rfl) ?_
              refine R.cstore1 hs rfl rfl Try.sz4 (by first | decide | simp [*]) (by first | rfl | exact OneC.one | exact KRow.oneC' (by assumption)) ?_
              intro w15_5 hs
              try simp only [List.set_cons_zero, List.set_cons_succ] at hs
              refine R.done ?_
              refine X.keep [(0, _), (2, _), (6, _)] ⟨rfl, rfl, rfl, trivial⟩ ?_
              refine X.next ?_
              refine C.seq ?_
              refine C.seq ?_
              refine C.region ?_
              have e3 : dH3 P = ⟨P.drop 17, 0⟩ := by rw [dH3, efl, decide_eq_true (by omega), req_T, e2, go_good rfl (by simp only [List.length_drop]; omega)]; simp only [List.drop_drop]
              refine R.ev rfl (E.move rfl) ?_
              refine R.ev rfl (E.lenSl rfl Try.underlying57) ?_
              refine R.ev rfl (E.lss rfl rfl) ?_
              refine R.done ?_
              refine X.keep [(0, _), (2, _), (6, _), (57, _)] ⟨rfl, rfl, rfl, rfl, trivial⟩ ?_
              refine X.next ?_
              refine C.cdec rfl (fun h57 => ?_) (fun h57 => ?_)
              · refine C.seq ?_
                refine C.region ?_
                refine R.ev rfl (E.buildG (r := [.int .i64 0, .int .i64 0, .bool false, .slice none 0 0]) rfl Try.underlying52 Try.zr52 Try.ql52 (by kernel_rfl) (by kernel_rfl) trivial (by first | rfl | simp [setF, fieldsOf, Value.cells])) ?_
                first | refine R.cstoreAll hs rfl rfl Try.sz52 (by first | rfl | assumption | exact encV_len _ | exact Enc.len _ | exact len_ub (by assumption) | simp [*]) (by first | rfl | assumption | exact encV_len _ | exact Enc.len _ | exact len_ub (by assumption) | simp [*]) (by first | assumption | exact OneL.all | exact Enc.one _ | exact ub_all _ | (repeat' (first | refine List.forall_mem_cons.2 ⟨?_, ?_⟩ | exact List.forall_mem_nil _ | rfl | exact OneC.one | exact KRow.oneC' (by assumption)))) ?_ | refine R.cstore hs rfl rfl Try.sz52 (by first | rfl | assumption | exact encV_len _ | exact Enc.len _ | exact len_ub (by assumption) | simp [*]) (by simp [*]) (by first | assumption | exact OneL.all | exact Enc.one _ | exact ub_all _ | (repeat' (first | refine List.forall_mem_cons.2 ⟨?_, ?_⟩ | exact List.forall_mem_nil _ | rfl | exact OneC.one | exact KRow.oneC' (by assumption)))) ?_
                intro w17_1 hs
                try simp only [List.set_cons_zero, List.set_cons_succ] at hs
                refine R.ev rfl (E.assign rfl) ?_
                refine R.done ?_
                refine X.keep [(2, _), (3, _)] ⟨rfl, rfl, trivial⟩ ?_
                refine X.next ?_
                refine C.ret ?_
                refine X.thenRet ?_
                refine X.resCT rfl rfl Try.underlying52 rfl Try.sz52 (by first | exact ⟨hs.ldA, by first | rfl | assumption | exact encV_len _ | exact Enc.len _ | exact len_ub (by assumption)⟩ | exact ⟨hs.ldP rfl, by first | rfl | assumption | exact encV_len _ | exact Enc.len _ | exact len_ub (by assumption)⟩ | exact ⟨by assumption, by first | rfl | assumption | exact encV_len _ | exact Enc.len _ | exact len_ub (by assumption)⟩) rfl ?_
                have e : (dH4 P).err = 23 := by rw [dH4, e3]; exact num_short rfl (by simp only [List.length_drop]; omega)
                exact RDPost.err (by rw [decE_4 (by rw [e]; decide), e]) (by decide) hs.to
              · refine C.skip ?_
                refine X.next ?_
                refine C.seq ?_
                refine C.region ?_
                refine R.ev rfl (E.move rfl) ?_
                refine R.call ⟨_, _, Try.func60, rfl, by kernel_rfl⟩ rfl rfl (read_any (P := P) 17 hs (by omega) (by omega)) ?_
                rintro _ w18 ⟨rfl, hs⟩
                have q4 := rdR_q (l := (P.drop 17).take 8) (upTo_q (c := dCap P) (by omega))
                refine R.ev rfl (E.assign rfl) ?_
                refine R.done ?_
                refine X.keep [(0, _), (2, _), (6, _), (8, _)] ⟨rfl, rfl, rfl, rfl, trivial⟩ ?_
                refine X.next ?_
                refine C.seq ?_
                refine C.seq ?_
                refine C.cut [(0, _), (2, _), (6, _), (8, _)] (fun (_ : Unit) => [(68, .bool (!(upTo (dCap P) (rdR ((P.drop 17).take 8)))))]) (fun _ w' => Sat K w' (row b6 52 [.int .i64 (dCap P), .int .i64 (dWt P), .bool (decide (dFl P = 1)), .slice none 0 0] :: row b2 52 [.int .i64 0, .int .i64 0, .bool false, .slice none 0 0] :: Hs)) ⟨rfl, rfl, rfl, rfl, trivial⟩ ?_ ?_
                · refine C.region ?_
                  refine R.ev rfl (E.move rfl) ?_
                  refine R.ev rfl (E.lss rfl rfl) ?_
                  refine R.ev rfl (E.move rfl) ?_
                  refine R.split 63 rfl (fun h63 => ?_) (fun h63 => ?_)
                  · refine R.gskip rfl rfl rfl ?_
                    refine R.gskip rfl rfl rfl ?_
                    refine R.gskip rfl rfl rfl ?_
                    refine R.gskip rfl rfl rfl ?_
                    refine R.ev rfl (E.pickT rfl rfl) ?_
                    refine R.done ?_
                    refine X.keep [(0, _), (2, _), (6, _), (8, _), (68, _)] ⟨rfl, rfl, rfl, rfl, rfl, trivial⟩ ?_
                    refine X.cut (()) ⟨lkV rfl ?_, rfl, rfl, rfl, rfl, trivial⟩ ?_
                    · first | exact upTo_T h63 | exact upTo_F h63
                    exact hs.to
                  · refine R.gyes rfl rfl ?_
                    refine R.ev rfl (E.move rfl) ?_
                    refine R.gyes rfl rfl ?_
                    first | refine R.ev rfl (E.fieldAddr0 0 rfl Try.underlying52 rfl Try.sz3 rfl) ?_ | refine R.ev rfl (E.fieldAddrN 0 rfl Try.underlying52 rfl Try.sz3 rfl) ?_
                    refine R.gyes rfl rfl ?_
                    refine R.ev rfl (E.load1 rfl Try.underlying3 rfl (by first | exact hs.ldc | exact hs.ld rfl | exact hs.ld (by assumption) | exact by assumption | exact At.cellC (by assumption))) ?_
                    refine R.gyes rfl rfl ?_
                    refine R.ev rfl (E.gtr rfl rfl) ?_
                    refine R.ev rfl (E.pickF rfl rfl) ?_
                    refine R.done ?_
                    refine X.keep [(0, _), (2, _), (6, _), (8, _), (68, _)] ⟨rfl, rfl, rfl, rfl, rfl, trivial⟩ ?_
                    refine X.cut (()) ⟨lkV rfl ?_, rfl, rfl, rfl, rfl, trivial⟩ ?_
                    · first | exact upTo_T h63 | exact upTo_F h63
                    exact hs.to
                · rintro _ w19 hs
                  refine X.keep [(0, _), (2, _), (6, _), (8, _), (68, _)] ⟨rfl, rfl, rfl, rfl, rfl, trivial⟩ ?_
                  refine X.next ?_
                  refine C.cbool rfl (fun h68 => ?_) (fun h68 => ?_)
                  · have hnb : upTo (dCap P) (toI ((P.drop 17).take 8)) = false := by rw [← q4.1]; simpa using h68
                    refine C.seq ?_
                    refine C.region ?_
                    refine R.ev rfl (E.buildG (r := [.int .i64 0, .int .i64 0, .bool false, .slice none 0 0]) rfl Try.underlying52 Try.zr52 Try.ql52 (by kernel_rfl) (by kernel_rfl) trivial (by first | rfl | simp [setF, fieldsOf, Value.cells])) ?_
                    first | refine R.cstoreAll hs rfl rfl Try.sz52 (by first | rfl | assumption | exact encV_len _ | exact Enc.len _ | exact len_ub (by assumption) | simp [*]) (by first | rfl | assumption | exact encV_len _ | exact Enc.len _ | exact len_ub (by assumption) | simp [*]) (by first | assumption | exact OneL.all | exact Enc.one _ | exact ub_all _ | (repeat' (first | refine List.forall_mem_cons.2 ⟨?_, ?_⟩ | exact List.forall_mem_nil _ | rfl | exact OneC.one | exact KRow.oneC' (by assumption)))) ?_ | refine R.cstore hs rfl rfl Try.sz52 (by first | rfl | assumption | exact encV_len _ | exact Enc.len _ | exact len_ub (by assumption) | simp [*]) (by simp [*]) (by first | assumption | exact OneL.all | exact Enc.one _ | exact ub_all _ | (repeat' (first | refine List.forall_mem_cons.2 ⟨?_, ?_⟩ | exact List.forall_mem_nil _ | rfl | exact OneC.one | exact KRow.oneC' (by assumption)))) ?_
                    intro w20_1 hs
                    try simp only [List.set_cons_zero, List.set_cons_succ] at hs
                    refine R.ev rfl (E.assign rfl) ?_
                    refine R.done ?_
                    refine X.keep [(2, _), (3, _)] ⟨rfl, rfl, trivial⟩ ?_
                    refine X.next ?_
                    refine C.ret ?_
                    refine X.thenRet ?_
                    refine X.resCT rfl rfl Try.underlying52 rfl Try.sz52 (by first | exact ⟨hs.ldA, by first | rfl | assumption | exact encV_len _ | exact Enc.len _ | exact len_ub (by assumption)⟩ | exact ⟨hs.ldP rfl, by first | rfl | assumption | exact encV_len _ | exact Enc.len _ | exact len_ub (by assumption)⟩ | exact ⟨by assumption, by first | rfl | assumption | exact encV_len _ | exact Enc.len _ | exact len_ub (by assumption)⟩) rfl ?_
                    have e : (dH4 P).err = 3 := by rw [dH4, e3]; exact num_bad rfl (by simp only [List.length_drop]; omega) hnb
                    exact RDPost.err (by rw [decE_4 (by rw [e]; decide), e]) (by decide) hs.to
                  · have hnb : upTo (dCap P) (toI ((P.drop 17).take 8)) = true := by rw [← q4.1]; simpa using h68
                    refine C.skip ?_
                    refine X.next ?_
                    refine C.seq ?_
                    refine C.region ?_
                    have e4 : dH4 P = ⟨P.drop 25, 0⟩ := by rw [dH4, e3, num_good rfl (by simp only [List.length_drop]; omega) hnb]; simp only [List.drop_drop]
                    have en : dN P = rdR ((P.drop 17).take 8) := by rw [q4.2 hnb, dN, e3]; exact val_good rfl (by simp only [List.length_drop]; omega)
                    have hnr : upTo (dCap P) (dN P) = true := by rw [en, q4.1]; exact hnb
                    have hnn := upTo_nn hnr
                    rw [← en]
                    have hel : ∀ o : RE, (encRE o).length = 35 := Enc.len
                    refine R.ev rfl ((E.assign rfl).as (u := .int .i64 ((25 + 48 * 0 : Nat) : Int)) rfl) ?_
                    refine R.done ?_
                    refine X.keep [(0, _), (2, _), (6, _), (8, _), (9, _)] ⟨rfl, rfl, rfl, rfl, rfl, trivial⟩ ?_
                    refine X.next ?_
                    refine C.seq ?_
                    refine C.seq ?_
                    refine C.region ?_
                    refine R.ev rfl ((E.assign rfl).as (u := .int .i64 ((0 : Nat) : Int)) rfl) ?_
                    refine R.done ?_
                    refine X.keep [(0, _), (2, _), (6, _), (8, _), (9, _), (10, _)] ⟨rfl, rfl, rfl, rfl, rfl, rfl, trivial⟩ ?_
                    refine X.next ?_
                    refine C.block ?_
                    refine C.loop (T := Nat × List Ent × Value × Hl) [(0, _), (2, _), (6, _), (8, _)] (fun (i, _, _, _) => [(9, .int .i64 ((25 + 48 * i : Nat) : Int)), (10, .int .i64 (i : Nat))]) (fun (i, L1, vL, G) w' => L1.length = i ∧ 25 + 48 * i ≤ P.length ∧ (i : Int) ≤ dN P ∧ dEnd P = dLoop ((dN P).toNat - i) (⟨P.drop (25 + 48 * i), 0⟩, L1) ∧ RowL 90 encRE 35 vL (L1.map toRE) G ∧ Sat K w' (row b6 52 [.int .i64 (dCap P), .int .i64 (dWt P), .bool (decide (dFl P = 1)), vL] :: row b2 52 [.int .i64 0, .int .i64 0, .bool false, .slice none 0 0] :: G :: Hs)) (fun (i, _) => (dN P).toNat - i) ((0, [], .slice none 0 0, [])) ⟨rfl, rfl, rfl, rfl, rfl, rfl, trivial⟩ ⟨rfl, by omega, by omega, by rw [dEnd, e4]; rfl, RowL.nil _ _ _, (hs.nil.to : Sat K _ (row b6 52 [.int .i64 (dCap P), .int .i64 (dWt P), .bool (decide (dFl P = 1)), .slice none 0 0] :: row b2 52 [.int .i64 0, .int .i64 0, .bool false, .slice none 0 0] :: [] :: Hs))⟩ ?_
                    rintro ⟨i, L1, vL, G1⟩ w22 ⟨hil, hat, hiN, hend, rL, hs⟩
                    have oL : OneC vL := ⟨RowL.oneC⟩
                    refine C.keep [(0, _), (2, _), (6, _), (8, _), (9, _), (10, _)] ⟨rfl, rfl, rfl, rfl, rfl, rfl, trivial⟩ ?_
                    refine C.seq ?_
                    refine C.seq ?_
                    refine C.region ?_
                    obtain ⟨a, ha⟩ : ∃ a, a = 25 + 48 * i := ⟨_, rfl⟩
                    rw [← ha] at hat hend ⊢
                    refine R.ev rfl (E.move rfl) ?_
                    refine R.ev rfl (E.move rfl) ?_
                    refine R.ev rfl (E.lss rfl rfl) ?_
                    refine R.done ?_
                    refine X.keep [(0, _), (2, _), (6, _), (8, _), (9, _), (10, _), (72, _)] ⟨rfl, rfl, rfl, rfl, rfl, rfl, rfl, trivial⟩ ?_
                    refine X.next ?_
                    refine C.cdec rfl (fun h72 => ?_) (fun h72 => ?_)
                    · have hen : dEnd P = dLoop (((dN P).toNat - (i + 1)) + 1) (⟨P.drop a, 0⟩, L1) := by rw [hend]; congr 1; omega
                      have hste := fun h => decE_step hen rfl h
                      refine C.skip ?_
                      refine X.next ?_
                      refine C.seq ?_
                      refine C.block ?_
                      refine C.seq ?_
                      refine C.region ?_
                      refine R.sallocA hs Try.zr90 rfl ?_
                      intro b11 w11 hs
                      have hs : Sat K _ (row b11 90 (part ((P.drop a).take 32) 0) :: row b6 52 [.int .i64 (dCap P), .int .i64 (dWt P), .bool (decide (dFl P = 1)), vL] :: row b2 52 [.int .i64 0, .int .i64 0, .bool false, .slice none 0 0] :: G1 :: Hs) := hs
                      refine R.done ?_
                      refine X.keep [(0, _), (2, _), (6, _), (8, _), (9, _), (10, _), (11, _)] ⟨rfl, rfl, rfl, rfl, rfl, rfl, rfl, trivial⟩ ?_
                      refine X.next ?_
                      refine C.seq ?_
                      refine C.seq ?_
                      refine C.region ?_
                      refine R.ev rfl (E.move rfl) ?_
                      refine R.ev rfl (E.lenSl rfl Try.underlying57) ?_
                      refine R.ev rfl (E.move rfl) ?_
                      refine R.ev rfl ((E.add rfl rfl (by omega) (by omega)).isI (c := ((a + 32 : Nat) : Int)) (by omega)) ?_
                      refine R.ev rfl (E.lss rfl rfl) ?_
                      refine R.done ?_
                      refine X.keep [(0, _), (2, _), (6, _), (8, _), (9, _), (10, _), (11, _), (79, _)] ⟨rfl, rfl, rfl, rfl, rfl, rfl, rfl, rfl, trivial⟩ ?_
                      refine X.next ?_
                      refine C.cdec rfl (fun h79 => ?_) (fun h79 => ?_)
                      · have est := s1_short (R := P.drop a) (L := L1) (by rw [List.length_drop]; omega)
                        refine C.seq ?_
                        refine C.region ?_
                        refine R.ev rfl (E.buildG (r := [.int .i64 0, .int .i64 0, .bool false, .slice none 0 0]) rfl Try.underlying52 Try.zr52 Try.ql52 (by kernel_rfl) (by kernel_rfl) trivial (by first | rfl | simp [setF, fieldsOf, Value.cells])) ?_
                        first | refine R.cstoreAll hs rfl rfl Try.sz52 (by first | rfl | assumption | exact encV_len _ | exact Enc.len _ | exact len_ub (by assumption) | simp [*]) (by first | rfl | assumption | exact encV_len _ | exact Enc.len _ | exact len_ub (by assumption) | simp [*]) (by first | assumption | exact OneL.all | exact Enc.one _ | exact ub_all _ | (repeat' (first | refine List.forall_mem_cons.2 ⟨?_, ?_⟩ | exact List.forall_mem_nil _ | rfl | exact OneC.one | exact KRow.oneC' (by assumption)))) ?_ | refine R.cstore hs rfl rfl Try.sz52 (by first | rfl | assumption | exact encV_len _ | exact Enc.len _ | exact len_ub (by assumption) | simp [*]) (by simp [*]) (by first | assumption | exact OneL.all | exact Enc.one _ | exact ub_all _ | (repeat' (first | refine List.forall_mem_cons.2 ⟨?_, ?_⟩ | exact List.forall_mem_nil _ | rfl | exact OneC.one | exact KRow.oneC' (by assumption)))) ?_
                        intro w27_1 hs
                        try simp only [List.set_cons_zero, List.set_cons_succ] at hs
                        refine R.ev rfl (E.assign rfl) ?_
                        refine R.done ?_
                        refine X.keep [(2, _), (3, _)] ⟨rfl, rfl, trivial⟩ ?_
                        refine X.next ?_
                        refine C.ret ?_
                        refine X.thenRet ?_
                        refine X.blockRet ?_
                        refine X.thenRet ?_
                        refine X.loopRet ?_
                        refine X.blockRet ?_
                        refine X.thenRet ?_
                        refine X.resCT rfl rfl Try.underlying52 rfl Try.sz52 (by first | exact ⟨hs.ldA, by first | rfl | assumption | exact encV_len _ | exact Enc.len _ | exact len_ub (by assumption)⟩ | exact ⟨hs.ldP rfl, by first | rfl | assumption | exact encV_len _ | exact Enc.len _ | exact len_ub (by assumption)⟩ | exact ⟨by assumption, by first | rfl | assumption | exact encV_len _ | exact Enc.len _ | exact len_ub (by assumption)⟩) rfl ?_
                        exact RDPost.err (by rw [hste (by rw [est]; decide), est]) (by decide) hs.to
                      · have hR32 : 32 ≤ (P.drop a).length := by rw [List.length_drop]; omega
                        obtain ⟨l, hl⟩ : ∃ l, l = (P.drop a).take 32 := ⟨_, rfl⟩
                        rw [← hl] at hs
                        have hll : l.length = 32 := by rw [hl, List.length_take]; omega
                        refine C.skip ?_
                        refine X.next ?_
                        refine C.seq ?_
                        refine C.seq ?_
                        refine C.region ?_
                        refine R.ev rfl ((E.assign rfl).as (u := .int .i64 ((0 : Nat) : Int)) rfl) ?_
                        refine R.done ?_
                        refine X.keep [(0, _), (2, _), (6, _), (8, _), (9, _), (10, _), (11, _), (12, _)] ⟨rfl, rfl, rfl, rfl, rfl, rfl, rfl, rfl, trivial⟩ ?_
                        refine X.next ?_
                        refine C.block ?_
                        refine C.loop  [(0, _), (2, _), (6, _), (8, _), (9, _), (10, _), (11, _)] (fun k => [(12, .int .i64 (k : Nat))]) (fun k w' => k ≤ 32 ∧ Sat K w' (row b11 90 (part l k) :: row b6 52 [.int .i64 (dCap P), .int .i64 (dWt P), .bool (decide (dFl P = 1)), vL] :: row b2 52 [.int .i64 0, .int .i64 0, .bool false, .slice none 0 0] :: G1 :: Hs)) (fun k => 32 - k) (0) ⟨rfl, rfl, rfl, rfl, rfl, rfl, rfl, rfl, trivial⟩ ⟨by omega, hs⟩ ?_
                        rintro k w28 ⟨hk, hs⟩
                        have hpl := part_len (k := k) hll hk
                        refine C.keep [(0, _), (2, _), (6, _), (8, _), (9, _), (10, _), (11, _), (12, _)] ⟨rfl, rfl, rfl, rfl, rfl, rfl, rfl, rfl, trivial⟩ ?_
                        refine C.seq ?_
                        refine C.seq ?_
                        refine C.region ?_
                        refine R.ev rfl (E.move rfl) ?_
                        refine R.ev rfl (E.lss rfl rfl) ?_
                        refine R.done ?_
                        refine X.keep [(0, _), (2, _), (6, _), (8, _), (9, _), (10, _), (11, _), (12, _), (82, _)] ⟨rfl, rfl, rfl, rfl, rfl, rfl, rfl, rfl, rfl, trivial⟩ ?_
                        refine X.next ?_
                        refine C.cdec rfl (fun h82 => ?_) (fun h82 => ?_)
                        · obtain ⟨c, hci⟩ : ∃ c, P[a + k]? = some c := ⟨_, List.getElem?_eq_getElem (by rw [List.length_drop] at hR32; omega)⟩
                          have hlk : l[k]? = some c := by rw [hl, List.getElem?_take_of_lt (by omega), List.getElem?_drop]; exact hci
                          have Ac := Sat.elAt (Hs := row b11 90 (part l k) :: row b6 52 [.int .i64 (dCap P), .int .i64 (dWt P), .bool (decide (dFl P = 1)), vL] :: row b2 52 [.int .i64 0, .int .i64 0, .bool false, .slice none 0 0] :: G1 :: Hs) (b := bk) (off := of) (n := P.length) cap hs hci
                          refine C.skip ?_
                          refine X.next ?_
                          refine C.seq ?_
                          refine C.block ?_
                          refine C.region ?_
                          refine R.ev rfl (E.move rfl) ?_
                          refine R.ev rfl (E.move rfl) ?_
                          refine R.ev rfl (E.move rfl) ?_
                          refine R.ev rfl (E.move rfl) ?_
                          refine R.ev rfl ((E.add rfl rfl (by omega) (by omega)).isI (c := ((a + k : Nat) : Int)) (by omega)) ?_
                          refine R.ev rfl (E.indexAddr (i := a + k) rfl rfl Try.underlying57 Try.sz5 rfl (by rw [List.length_drop] at hR32; omega)) ?_
                          refine R.ev rfl (E.load1 rfl Try.underlying5 rfl (Ac _ hs 0 _ rfl)) ?_
                          first | refine R.ev rfl (E.fieldAddr0 0 rfl Try.underlying90 rfl Try.sz29 rfl) ?_ | refine R.ev rfl (E.fieldAddrN 0 rfl Try.underlying90 rfl Try.sz29 rfl) ?_
                          refine R.ev rfl (E.indexAddrA rfl rfl Try.underlying29 Try.sz5 rfl (by first | omega | decide)) ?_
                          refine R.cstore1 hs rfl rfl Try.sz5 (by rw [hpl]; omega) rfl ?_
                          intro w31 hs
                          rw [part_set hll (by omega) hlk] at hs
                          refine R.done ?_
                          refine X.keep [(0, _), (2, _), (6, _), (8, _), (9, _), (10, _), (11, _), (12, _)] ⟨rfl, rfl, rfl, rfl, rfl, rfl, rfl, rfl, trivial⟩ ?_
                          refine X.blockNormal ?_
                          refine X.next ?_
                          refine C.region ?_
                          refine R.ev rfl (E.move rfl) ?_
                          refine R.ev rfl ((E.add rfl rfl (by omega) (by omega)).isI (c := ((k + 1 : Nat) : Int)) (by omega)) ?_
                          refine R.ev rfl (E.assign rfl) ?_
                          refine R.done ?_
                          refine X.keep [(0, _), (2, _), (6, _), (8, _), (9, _), (10, _), (11, _), (12, _)] ⟨rfl, rfl, rfl, rfl, rfl, rfl, rfl, rfl, trivial⟩ ?_
                          exact X.again (k + 1) ⟨rfl, rfl, rfl, rfl, rfl, rfl, rfl, rfl, trivial⟩ ⟨by omega, hs⟩ (by omega)
                        · refine C.exit ?_
                          refine X.thenExit ?_
                          refine X.loopExit ?_
                          refine X.blockExit ?_
                          refine X.next ?_
                          refine C.seq ?_
                          refine C.seq ?_
                          rw [show k = 32 by omega, part_done hll] at hs
                          have hid : dId (⟨P.drop a, 0⟩, L1) = ⟨l, hll⟩ := Subtype.ext ((dId_eq hR32).trans hl.symm)
                          generalize (⟨l, hll⟩ : Vec 32) = id at hs hid
                          have e5 := encV_len id
                          refine C.cut [(0, _), (2, _), (6, _), (8, _), (9, _), (10, _), (11, _)] (fun (_ : Unit) => [(104, .bool (decide (id = zid) || has id L1))]) (fun _ w' => Sat K w' (row b11 90 (encRE ⟨id, 0, 0, false⟩) :: row b6 52 [.int .i64 (dCap P), .int .i64 (dWt P), .bool (decide (dFl P = 1)), vL] :: row b2 52 [.int .i64 0, .int .i64 0, .bool false, .slice none 0 0] :: G1 :: Hs)) ⟨rfl, rfl, rfl, rfl, rfl, rfl, rfl, trivial⟩ ?_ ?_
                          · refine C.region ?_
                            first | refine R.ev rfl (E.fieldAddr0 0 rfl Try.underlying90 rfl Try.sz29 rfl) ?_ | refine R.ev rfl (E.fieldAddrN 0 rfl Try.underlying90 rfl Try.sz29 rfl) ?_
                            refine R.ev rfl (E.loadRowC rfl Try.underlying29 rfl Try.sz29 (by first | exact ⟨hs.ldA, by first | rfl | assumption | exact encV_len _ | exact Enc.len _ | exact len_ub (by assumption)⟩ | exact ⟨hs.ldP rfl, by first | rfl | assumption | exact encV_len _ | exact Enc.len _ | exact len_ub (by assumption)⟩ | exact ⟨hs.ldM rfl rfl, by first | rfl | assumption | exact encV_len _ | exact Enc.len _ | exact len_ub (by assumption)⟩ | exact ⟨hs.ldM (by assumption) (by first | rfl | assumption), by first | rfl | assumption | exact encV_len _ | exact Enc.len _ | exact len_ub (by assumption)⟩ | exact ⟨by assumption, by first | rfl | assumption | exact encV_len _ | exact Enc.len _ | exact len_ub (by assumption)⟩ | exact hs.ldp | exact At.partC (by assumption))) ?_
                            refine R.ev rfl ((E.buildA rfl Try.underlying29 Try.zr29 Try.sz5 rfl).as (u := .agg (encV zid).toArray) (by rfl)) ?_
                            refine R.ev rfl ((E.eqV 10 (a := id) (b := zid) rfl rfl Try.lv29 rfl Try.underlying29 rfl Try.gd29)) ?_
                            refine R.ev rfl (E.move rfl) ?_
                            refine R.split 98 rfl (fun h98 => ?_) (fun h98 => ?_)
                            · refine R.gskip rfl rfl rfl ?_
                              refine R.gskip rfl rfl rfl ?_
                              refine R.gskip rfl rfl rfl ?_
                              refine R.gskip rfl rfl rfl ?_
                              refine R.gskip rfl rfl rfl ?_
                              refine R.ev rfl (E.pickT rfl rfl) ?_
                              refine R.done ?_
                              refine X.keep [(0, _), (2, _), (6, _), (8, _), (9, _), (10, _), (11, _), (104, _)] ⟨rfl, rfl, rfl, rfl, rfl, rfl, rfl, rfl, trivial⟩ ?_
                              refine X.cut (()) ⟨lkV rfl ?_, rfl, rfl, rfl, rfl, rfl, rfl, rfl, trivial⟩ ?_
                              · first
                                  | (rw [h98]; rfl)
                              exact hs
                            · refine R.gyes rfl rfl ?_
                              refine R.ev rfl (E.loadRowC rfl Try.underlying52 rfl Try.sz52 (by first | exact ⟨hs.ldA, by first | rfl | assumption | exact encV_len _ | exact Enc.len _ | exact len_ub (by assumption)⟩ | exact ⟨hs.ldP rfl, by first | rfl | assumption | exact encV_len _ | exact Enc.len _ | exact len_ub (by assumption)⟩ | exact ⟨hs.ldM rfl rfl, by first | rfl | assumption | exact encV_len _ | exact Enc.len _ | exact len_ub (by assumption)⟩ | exact ⟨hs.ldM (by assumption) (by first | rfl | assumption), by first | rfl | assumption | exact encV_len _ | exact Enc.len _ | exact len_ub (by assumption)⟩ | exact ⟨by assumption, by first | rfl | assumption | exact encV_len _ | exact Enc.len _ | exact len_ub (by assumption)⟩ | exact hs.ldp | exact At.partC (by assumption))) ?_
                              refine R.gyes rfl rfl ?_
                              first | refine R.ev rfl (E.fieldAddr0 0 rfl Try.underlying90 rfl Try.sz29 rfl) ?_ | refine R.ev rfl (E.fieldAddrN 0 rfl Try.underlying90 rfl Try.sz29 rfl) ?_
                              refine R.gyes rfl rfl ?_
                              refine R.ev rfl (E.loadRowC rfl Try.underlying29 rfl Try.sz29 (by first | exact ⟨hs.ldA, by first | rfl | assumption | exact encV_len _ | exact Enc.len _ | exact len_ub (by assumption)⟩ | exact ⟨hs.ldP rfl, by first | rfl | assumption | exact encV_len _ | exact Enc.len _ | exact len_ub (by assumption)⟩ | exact ⟨hs.ldM rfl rfl, by first | rfl | assumption | exact encV_len _ | exact Enc.len _ | exact len_ub (by assumption)⟩ | exact ⟨hs.ldM (by assumption) (by first | rfl | assumption), by first | rfl | assumption | exact encV_len _ | exact Enc.len _ | exact len_ub (by assumption)⟩ | exact ⟨by assumption, by first | rfl | assumption | exact encV_len _ | exact Enc.len _ | exact len_ub (by assumption)⟩ | exact hs.ldp | exact At.partC (by assumption))) ?_
                              refine R.gyes rfl rfl ?_
                              refine R.call ⟨_, _, Try.func61, rfl, by kernel_rfl⟩ rfl rfl (rfind2_any (s := ⟨dCap P, dWt P, decide (dFl P = 1), L1.map toRE⟩) (v := vL) id hs (by simp only [List.length_map]; omega)) ?_
                              rintro _ w33 ⟨rfl, hs⟩
                              refine R.gyes rfl rfl ?_
                              refine R.ev rfl ((E.geq rfl rfl).isB (c := has id L1) (by rw [rIdx_ge]; exact rHas_to)) ?_
                              refine R.ev rfl (E.pickF rfl rfl) ?_
                              refine R.done ?_
                              refine X.keep [(0, _), (2, _), (6, _), (8, _), (9, _), (10, _), (11, _), (104, _)] ⟨rfl, rfl, rfl, rfl, rfl, rfl, rfl, rfl, trivial⟩ ?_
                              refine X.cut (()) ⟨lkV rfl ?_, rfl, rfl, rfl, rfl, rfl, rfl, rfl, trivial⟩ ?_
                              · first
                                  | (rw [h98]; rfl)
                              exact hs
                          · rintro _ w32 hs
                            refine X.keep [(0, _), (2, _), (6, _), (8, _), (9, _), (10, _), (11, _), (104, _)] ⟨rfl, rfl, rfl, rfl, rfl, rfl, rfl, rfl, trivial⟩ ?_
                            refine X.next ?_
                            refine C.cbool rfl (fun h104 => ?_) (fun h104 => ?_)
                            · have est := s1_bad (R := P.drop a) (L := L1) hR32 (by rw [hid]; exact h104)
                              refine C.seq ?_
                              refine C.region ?_
                              refine R.ev rfl (E.buildG (r := [.int .i64 0, .int .i64 0, .bool false, .slice none 0 0]) rfl Try.underlying52 Try.zr52 Try.ql52 (by kernel_rfl) (by kernel_rfl) trivial (by first | rfl | simp [setF, fieldsOf, Value.cells])) ?_
                              first | refine R.cstoreAll hs rfl rfl Try.sz52 (by first | rfl | assumption | exact encV_len _ | exact Enc.len _ | exact len_ub (by assumption) | simp [*]) (by first | rfl | assumption | exact encV_len _ | exact Enc.len _ | exact len_ub (by assumption) | simp [*]) (by first | assumption | exact OneL.all | exact Enc.one _ | exact ub_all _ | (repeat' (first | refine List.forall_mem_cons.2 ⟨?_, ?_⟩ | exact List.forall_mem_nil _ | rfl | exact OneC.one | exact KRow.oneC' (by assumption)))) ?_ | refine R.cstore hs rfl rfl Try.sz52 (by first | rfl | assumption | exact encV_len _ | exact Enc.len _ | exact len_ub (by assumption) | simp [*]) (by simp [*]) (by first | assumption | exact OneL.all | exact Enc.one _ | exact ub_all _ | (repeat' (first | refine List.forall_mem_cons.2 ⟨?_, ?_⟩ | exact List.forall_mem_nil _ | rfl | exact OneC.one | exact KRow.oneC' (by assumption)))) ?_
                              intro w33_1 hs
                              try simp only [List.set_cons_zero, List.set_cons_succ] at hs
                              refine R.ev rfl (E.assign rfl) ?_
                              refine R.done ?_
                              refine X.keep [(2, _), (3, _)] ⟨rfl, rfl, trivial⟩ ?_
                              refine X.next ?_
                              refine C.ret ?_
                              refine X.thenRet ?_
                              refine X.blockRet ?_
                              refine X.thenRet ?_
                              refine X.loopRet ?_
                              refine X.blockRet ?_
                              refine X.thenRet ?_
                              refine X.resCT rfl rfl Try.underlying52 rfl Try.sz52 (by first | exact ⟨hs.ldA, by first | rfl | assumption | exact encV_len _ | exact Enc.len _ | exact len_ub (by assumption)⟩ | exact ⟨hs.ldP rfl, by first | rfl | assumption | exact encV_len _ | exact Enc.len _ | exact len_ub (by assumption)⟩ | exact ⟨by assumption, by first | rfl | assumption | exact encV_len _ | exact Enc.len _ | exact len_ub (by assumption)⟩) rfl ?_
                              exact RDPost.err (by rw [hste (by rw [est]; decide), est]) (by decide) hs.to
                            · have es1 := s1_ok (R := P.drop a) (L := L1) hR32 (by rw [hid]; exact h104)
                              rw [List.drop_drop] at es1
                              refine C.skip ?_
                              refine X.next ?_
                              refine C.seq ?_
                              refine C.seq ?_
                              refine C.region ?_
                              refine R.ev rfl (E.move rfl) ?_
                              refine R.ev rfl (E.lenSl rfl Try.underlying57) ?_
                              refine R.ev rfl (E.move rfl) ?_
                              refine R.ev rfl ((E.add rfl rfl (by omega) (by omega)).isI (c := ((a + 40 : Nat) : Int)) (by omega)) ?_
                              refine R.ev rfl (E.lss rfl rfl) ?_
                              refine R.done ?_
                              refine X.keep [(0, _), (2, _), (6, _), (8, _), (9, _), (10, _), (11, _), (110, _)] ⟨rfl, rfl, rfl, rfl, rfl, rfl, rfl, rfl, trivial⟩ ?_
                              refine X.next ?_
                              refine C.cdec rfl (fun h110 => ?_) (fun h110 => ?_)
                              · refine C.seq ?_
                                refine C.region ?_
                                refine R.ev rfl (E.buildG (r := [.int .i64 0, .int .i64 0, .bool false, .slice none 0 0]) rfl Try.underlying52 Try.zr52 Try.ql52 (by kernel_rfl) (by kernel_rfl) trivial (by first | rfl | simp [setF, fieldsOf, Value.cells])) ?_
                                first | refine R.cstoreAll hs rfl rfl Try.sz52 (by first | rfl | assumption | exact encV_len _ | exact Enc.len _ | exact len_ub (by assumption) | simp [*]) (by first | rfl | assumption | exact encV_len _ | exact Enc.len _ | exact len_ub (by assumption) | simp [*]) (by first | assumption | exact OneL.all | exact Enc.one _ | exact ub_all _ | (repeat' (first | refine List.forall_mem_cons.2 ⟨?_, ?_⟩ | exact List.forall_mem_nil _ | rfl | exact OneC.one | exact KRow.oneC' (by assumption)))) ?_ | refine R.cstore hs rfl rfl Try.sz52 (by first | rfl | assumption | exact encV_len _ | exact Enc.len _ | exact len_ub (by assumption) | simp [*]) (by simp [*]) (by first | assumption | exact OneL.all | exact Enc.one _ | exact ub_all _ | (repeat' (first | refine List.forall_mem_cons.2 ⟨?_, ?_⟩ | exact List.forall_mem_nil _ | rfl | exact OneC.one | exact KRow.oneC' (by assumption)))) ?_
                                intro w35_1 hs
                                try simp only [List.set_cons_zero, List.set_cons_succ] at hs
                                refine R.ev rfl (E.assign rfl) ?_
                                refine R.done ?_
                                refine X.keep [(2, _), (3, _)] ⟨rfl, rfl, trivial⟩ ?_
                                refine X.next ?_
                                refine C.ret ?_
                                refine X.thenRet ?_
                                refine X.blockRet ?_
                                refine X.thenRet ?_
                                refine X.loopRet ?_
                                refine X.blockRet ?_
                                refine X.thenRet ?_
                                refine X.resCT rfl rfl Try.underlying52 rfl Try.sz52 (by first | exact ⟨hs.ldA, by first | rfl | assumption | exact encV_len _ | exact Enc.len _ | exact len_ub (by assumption)⟩ | exact ⟨hs.ldP rfl, by first | rfl | assumption | exact encV_len _ | exact Enc.len _ | exact len_ub (by assumption)⟩ | exact ⟨by assumption, by first | rfl | assumption | exact encV_len _ | exact Enc.len _ | exact len_ub (by assumption)⟩) rfl ?_
                                have e : (dS2 (⟨P.drop a, 0⟩, L1)).err = 23 := by rw [dS2, es1]; exact num_short rfl (by simp only [List.length_drop]; omega)
                                have est := (dStep_2 (st := (⟨P.drop a, 0⟩, L1)) (by rw [e]; decide)).trans e
                                exact RDPost.err (by rw [hste (by rw [est]; decide), est]) (by decide) hs.to
                              · refine C.skip ?_
                                refine X.next ?_
                                refine C.seq ?_
                                refine C.region ?_
                                refine R.ev rfl (E.move rfl) ?_
                                refine R.ev rfl (E.move rfl) ?_
                                refine R.ev rfl ((E.add rfl rfl (by omega) (by omega)).isI (c := ((a + 32 : Nat) : Int)) (by omega)) ?_
                                refine R.call ⟨_, _, Try.func60, rfl, by kernel_rfl⟩ rfl rfl (read_any (P := P) (a + 32) hs (by omega) (by omega)) ?_
                                rintro _ w36 ⟨rfl, hs⟩
                                have q6 := rdR_q (l := (P.drop (a + 32)).take 8) isMin_q
                                obtain ⟨du, hdu⟩ : ∃ du, du = rdR ((P.drop (a + 32)).take 8) := ⟨_, rfl⟩
                                rw [← hdu] at q6 ⊢
                                first | refine R.ev rfl (E.fieldAddr0 32 rfl Try.underlying90 rfl Try.sz3 rfl) ?_ | refine R.ev rfl (E.fieldAddrN 32 rfl Try.underlying90 rfl Try.sz3 rfl) ?_
                                refine R.cstore1 hs rfl rfl Try.sz3 (by first | decide | simp [*]) (by first | rfl | exact OneC.one | exact KRow.oneC' (by assumption)) ?_
                                intro w36_5 hs
                                try simp only [List.set_cons_zero, List.set_cons_succ] at hs
                                rw [encRE_due] at hs
                                dsimp only at hs
                                refine R.done ?_
                                refine X.keep [(0, _), (2, _), (6, _), (8, _), (9, _), (10, _), (11, _)] ⟨rfl, rfl, rfl, rfl, rfl, rfl, rfl, trivial⟩ ?_
                                refine X.next ?_
                                refine C.seq ?_
                                refine C.seq ?_
                                refine C.region ?_
                                first | refine R.ev rfl (E.fieldAddr0 32 rfl Try.underlying90 rfl Try.sz3 rfl) ?_ | refine R.ev rfl (E.fieldAddrN 32 rfl Try.underlying90 rfl Try.sz3 rfl) ?_
                                refine R.ev rfl (E.load1 rfl Try.underlying3 rfl (by first | exact hs.ldc | exact hs.ld rfl | exact hs.ld (by assumption) | exact by assumption | exact At.cellC (by assumption))) ?_
                                refine R.call ⟨_, _, Try.func62, rfl, by kernel_rfl⟩ rfl rfl (rminute_any du _) ?_
                                rintro _ _ ⟨rfl, rfl⟩
                                refine R.ev rfl ((E.not rfl).isB (c := !(isMin du)) rfl) ?_
                                refine R.done ?_
                                refine X.keep [(0, _), (2, _), (6, _), (8, _), (9, _), (10, _), (11, _), (120, _)] ⟨rfl, rfl, rfl, rfl, rfl, rfl, rfl, rfl, trivial⟩ ?_
                                refine X.next ?_
                                refine C.cbool rfl (fun h120 => ?_) (fun h120 => ?_)
                                · have hmb : isMin (toI ((P.drop (a + 32)).take 8)) = false := by rw [← q6.1]; simpa using h120
                                  refine C.seq ?_
                                  refine C.region ?_
                                  refine R.ev rfl (E.buildG (r := [.int .i64 0, .int .i64 0, .bool false, .slice none 0 0]) rfl Try.underlying52 Try.zr52 Try.ql52 (by kernel_rfl) (by kernel_rfl) trivial (by first | rfl | simp [setF, fieldsOf, Value.cells])) ?_
                                  first | refine R.cstoreAll hs rfl rfl Try.sz52 (by first | rfl | assumption | exact encV_len _ | exact Enc.len _ | exact len_ub (by assumption) | simp [*]) (by first | rfl | assumption | exact encV_len _ | exact Enc.len _ | exact len_ub (by assumption) | simp [*]) (by first | assumption | exact OneL.all | exact Enc.one _ | exact ub_all _ | (repeat' (first | refine List.forall_mem_cons.2 ⟨?_, ?_⟩ | exact List.forall_mem_nil _ | rfl | exact OneC.one | exact KRow.oneC' (by assumption)))) ?_ | refine R.cstore hs rfl rfl Try.sz52 (by first | rfl | assumption | exact encV_len _ | exact Enc.len _ | exact len_ub (by assumption) | simp [*]) (by simp [*]) (by first | assumption | exact OneL.all | exact Enc.one _ | exact ub_all _ | (repeat' (first | refine List.forall_mem_cons.2 ⟨?_, ?_⟩ | exact List.forall_mem_nil _ | rfl | exact OneC.one | exact KRow.oneC' (by assumption)))) ?_
                                  intro w38_1 hs
                                  try simp only [List.set_cons_zero, List.set_cons_succ] at hs
                                  refine R.ev rfl (E.assign rfl) ?_
                                  refine R.done ?_
                                  refine X.keep [(2, _), (3, _)] ⟨rfl, rfl, trivial⟩ ?_
                                  refine X.next ?_
                                  refine C.ret ?_
                                  refine X.thenRet ?_
                                  refine X.blockRet ?_
                                  refine X.thenRet ?_
                                  refine X.loopRet ?_
                                  refine X.blockRet ?_
                                  refine X.thenRet ?_
                                  refine X.resCT rfl rfl Try.underlying52 rfl Try.sz52 (by first | exact ⟨hs.ldA, by first | rfl | assumption | exact encV_len _ | exact Enc.len _ | exact len_ub (by assumption)⟩ | exact ⟨hs.ldP rfl, by first | rfl | assumption | exact encV_len _ | exact Enc.len _ | exact len_ub (by assumption)⟩ | exact ⟨by assumption, by first | rfl | assumption | exact encV_len _ | exact Enc.len _ | exact len_ub (by assumption)⟩) rfl ?_
                                  have e : (dS2 (⟨P.drop a, 0⟩, L1)).err = 3 := by rw [dS2, es1]; exact num_bad rfl (by simp only [List.length_drop]; omega) hmb
                                  have est := (dStep_2 (st := (⟨P.drop a, 0⟩, L1)) (by rw [e]; decide)).trans e
                                  exact RDPost.err (by rw [hste (by rw [est]; decide), est]) (by decide) hs.to
                                · have hmb : isMin (toI ((P.drop (a + 32)).take 8)) = true := by rw [← q6.1]; simpa using h120
                                  refine C.skip ?_
                                  refine X.next ?_
                                  refine C.seq ?_
                                  refine C.seq ?_
                                  refine C.region ?_
                                  have es2 : dS2 (⟨P.drop a, 0⟩, L1) = ⟨P.drop (a + 40), 0⟩ := by rw [dS2, es1, num_good rfl (by simp only [List.length_drop]; omega) hmb]; simp only [List.drop_drop]
                                  have ev1 : (dS1 (⟨P.drop a, 0⟩, L1)).val = du := by rw [q6.2 hmb, es1]; exact val_good rfl (by simp only [List.length_drop]; omega)
                                  refine R.ev rfl (E.move rfl) ?_
                                  refine R.ev rfl (E.lenSl rfl Try.underlying57) ?_
                                  refine R.ev rfl (E.move rfl) ?_
                                  refine R.ev rfl ((E.add rfl rfl (by omega) (by omega)).isI (c := ((a + 48 : Nat) : Int)) (by omega)) ?_
                                  refine R.ev rfl (E.lss rfl rfl) ?_
                                  refine R.done ?_
                                  refine X.keep [(0, _), (2, _), (6, _), (8, _), (9, _), (10, _), (11, _), (126, _)] ⟨rfl, rfl, rfl, rfl, rfl, rfl, rfl, rfl, trivial⟩ ?_
                                  refine X.next ?_
                                  refine C.cdec rfl (fun h126 => ?_) (fun h126 => ?_)
                                  · refine C.seq ?_
                                    refine C.region ?_
                                    refine R.ev rfl (E.buildG (r := [.int .i64 0, .int .i64 0, .bool false, .slice none 0 0]) rfl Try.underlying52 Try.zr52 Try.ql52 (by kernel_rfl) (by kernel_rfl) trivial (by first | rfl | simp [setF, fieldsOf, Value.cells])) ?_
                                    first | refine R.cstoreAll hs rfl rfl Try.sz52 (by first | rfl | assumption | exact encV_len _ | exact Enc.len _ | exact len_ub (by assumption) | simp [*]) (by first | rfl | assumption | exact encV_len _ | exact Enc.len _ | exact len_ub (by assumption) | simp [*]) (by first | assumption | exact OneL.all | exact Enc.one _ | exact ub_all _ | (repeat' (first | refine List.forall_mem_cons.2 ⟨?_, ?_⟩ | exact List.forall_mem_nil _ | rfl | exact OneC.one | exact KRow.oneC' (by assumption)))) ?_ | refine R.cstore hs rfl rfl Try.sz52 (by first | rfl | assumption | exact encV_len _ | exact Enc.len _ | exact len_ub (by assumption) | simp [*]) (by simp [*]) (by first | assumption | exact OneL.all | exact Enc.one _ | exact ub_all _ | (repeat' (first | refine List.forall_mem_cons.2 ⟨?_, ?_⟩ | exact List.forall_mem_nil _ | rfl | exact OneC.one | exact KRow.oneC' (by assumption)))) ?_
                                    intro w40_1 hs
                                    try simp only [List.set_cons_zero, List.set_cons_succ] at hs
                                    refine R.ev rfl (E.assign rfl) ?_
                                    refine R.done ?_
                                    refine X.keep [(2, _), (3, _)] ⟨rfl, rfl, trivial⟩ ?_
                                    refine X.next ?_
                                    refine C.ret ?_
                                    refine X.thenRet ?_
                                    refine X.blockRet ?_
                                    refine X.thenRet ?_
                                    refine X.loopRet ?_
                                    refine X.blockRet ?_
                                    refine X.thenRet ?_
                                    refine X.resCT rfl rfl Try.underlying52 rfl Try.sz52 (by first | exact ⟨hs.ldA, by first | rfl | assumption | exact encV_len _ | exact Enc.len _ | exact len_ub (by assumption)⟩ | exact ⟨hs.ldP rfl, by first | rfl | assumption | exact encV_len _ | exact Enc.len _ | exact len_ub (by assumption)⟩ | exact ⟨by assumption, by first | rfl | assumption | exact encV_len _ | exact Enc.len _ | exact len_ub (by assumption)⟩) rfl ?_
                                    have est : (dStep (⟨P.drop a, 0⟩, L1)).1.err = 23 := by show ((dS2 (⟨P.drop a, 0⟩, L1)).num isTr).err = 23; rw [es2]; exact num_short rfl (by simp only [List.length_drop]; omega)
                                    exact RDPost.err (by rw [hste (by rw [est]; decide), est]) (by decide) hs.to
                                  · refine C.skip ?_
                                    refine X.next ?_
                                    refine C.seq ?_
                                    refine C.region ?_
                                    refine R.ev rfl (E.move rfl) ?_
                                    refine R.ev rfl (E.move rfl) ?_
                                    refine R.ev rfl ((E.add rfl rfl (by omega) (by omega)).isI (c := ((a + 40 : Nat) : Int)) (by omega)) ?_
                                    refine R.call ⟨_, _, Try.func60, rfl, by kernel_rfl⟩ rfl rfl (read_any (P := P) (a + 40) hs (by omega) (by omega)) ?_
                                    rintro _ w41 ⟨rfl, hs⟩
                                    have q7 := rdR_q (l := (P.drop (a + 40)).take 8) isTr_q
                                    obtain ⟨tr, htr⟩ : ∃ tr, tr = rdR ((P.drop (a + 40)).take 8) := ⟨_, rfl⟩
                                    rw [← htr] at q7 ⊢
                                    first | refine R.ev rfl (E.fieldAddr0 33 rfl Try.underlying90 rfl Try.sz3 rfl) ?_ | refine R.ev rfl (E.fieldAddrN 33 rfl Try.underlying90 rfl Try.sz3 rfl) ?_
                                    refine R.cstore1 hs rfl rfl Try.sz3 (by first | decide | simp [*]) (by first | rfl | exact OneC.one | exact KRow.oneC' (by assumption)) ?_
                                    intro w41_5 hs
                                    try simp only [List.set_cons_zero, List.set_cons_succ] at hs
                                    rw [encRE_tries] at hs
                                    dsimp only at hs
                                    refine R.done ?_
                                    refine X.keep [(0, _), (2, _), (6, _), (8, _), (9, _), (10, _), (11, _)] ⟨rfl, rfl, rfl, rfl, rfl, rfl, rfl, trivial⟩ ?_
                                    refine X.next ?_
                                    refine C.seq ?_
                                    refine C.seq ?_
                                    refine C.cut [(0, _), (2, _), (6, _), (8, _), (9, _), (10, _), (11, _)] (fun (_ : Unit) => [(140, .bool (!(isTr tr)))]) (fun _ w' => Sat K w' (row b11 90 (encRE ⟨id, du, tr, false⟩) :: row b6 52 [.int .i64 (dCap P), .int .i64 (dWt P), .bool (decide (dFl P = 1)), vL] :: row b2 52 [.int .i64 0, .int .i64 0, .bool false, .slice none 0 0] :: G1 :: Hs)) ⟨rfl, rfl, rfl, rfl, rfl, rfl, rfl, trivial⟩ ?_ ?_
                                    · refine C.region ?_
                                      first | refine R.ev rfl (E.fieldAddr0 33 rfl Try.underlying90 rfl Try.sz3 rfl) ?_ | refine R.ev rfl (E.fieldAddrN 33 rfl Try.underlying90 rfl Try.sz3 rfl) ?_
                                      refine R.ev rfl (E.load1 rfl Try.underlying3 rfl (by first | exact hs.ldc | exact hs.ld rfl | exact hs.ld (by assumption) | exact by assumption | exact At.cellC (by assumption))) ?_
                                      refine R.ev rfl (E.lss rfl rfl) ?_
                                      refine R.ev rfl (E.move rfl) ?_
                                      refine R.split 136 rfl (fun h136 => ?_) (fun h136 => ?_)
                                      · refine R.gskip rfl rfl rfl ?_
                                        refine R.gskip rfl rfl rfl ?_
                                        refine R.gskip rfl rfl rfl ?_
                                        refine R.ev rfl (E.pickT rfl rfl) ?_
                                        refine R.done ?_
                                        refine X.keep [(0, _), (2, _), (6, _), (8, _), (9, _), (10, _), (11, _), (140, _)] ⟨rfl, rfl, rfl, rfl, rfl, rfl, rfl, rfl, trivial⟩ ?_
                                        refine X.cut (()) ⟨lkV rfl ?_, rfl, rfl, rfl, rfl, rfl, rfl, rfl, trivial⟩ ?_
                                        · first | exact upTo_T (c := 1073741824) h136 | exact upTo_F (c := 1073741824) h136
                                        exact hs
                                      · refine R.gyes rfl rfl ?_
                                        first | refine R.ev rfl (E.fieldAddr0 33 rfl Try.underlying90 rfl Try.sz3 rfl) ?_ | refine R.ev rfl (E.fieldAddrN 33 rfl Try.underlying90 rfl Try.sz3 rfl) ?_
                                        refine R.gyes rfl rfl ?_
                                        refine R.ev rfl (E.load1 rfl Try.underlying3 rfl (by first | exact hs.ldc | exact hs.ld rfl | exact hs.ld (by assumption) | exact by assumption | exact At.cellC (by assumption))) ?_
                                        refine R.gyes rfl rfl ?_
                                        refine R.ev rfl (E.gtr rfl rfl) ?_
                                        refine R.ev rfl (E.pickF rfl rfl) ?_
                                        refine R.done ?_
                                        refine X.keep [(0, _), (2, _), (6, _), (8, _), (9, _), (10, _), (11, _), (140, _)] ⟨rfl, rfl, rfl, rfl, rfl, rfl, rfl, rfl, trivial⟩ ?_
                                        refine X.cut (()) ⟨lkV rfl ?_, rfl, rfl, rfl, rfl, rfl, rfl, rfl, trivial⟩ ?_
                                        · first | exact upTo_T (c := 1073741824) h136 | exact upTo_F (c := 1073741824) h136
                                        exact hs
                                    · rintro _ w42 hs
                                      refine X.keep [(0, _), (2, _), (6, _), (8, _), (9, _), (10, _), (11, _), (140, _)] ⟨rfl, rfl, rfl, rfl, rfl, rfl, rfl, rfl, trivial⟩ ?_
                                      refine X.next ?_
                                      refine C.cbool rfl (fun h140 => ?_) (fun h140 => ?_)
                                      · have htb : isTr (toI ((P.drop (a + 40)).take 8)) = false := by rw [← q7.1]; simpa using h140
                                        refine C.seq ?_
                                        refine C.region ?_
                                        refine R.ev rfl (E.buildG (r := [.int .i64 0, .int .i64 0, .bool false, .slice none 0 0]) rfl Try.underlying52 Try.zr52 Try.ql52 (by kernel_rfl) (by kernel_rfl) trivial (by first | rfl | simp [setF, fieldsOf, Value.cells])) ?_
                                        first | refine R.cstoreAll hs rfl rfl Try.sz52 (by first | rfl | assumption | exact encV_len _ | exact Enc.len _ | exact len_ub (by assumption) | simp [*]) (by first | rfl | assumption | exact encV_len _ | exact Enc.len _ | exact len_ub (by assumption) | simp [*]) (by first | assumption | exact OneL.all | exact Enc.one _ | exact ub_all _ | (repeat' (first | refine List.forall_mem_cons.2 ⟨?_, ?_⟩ | exact List.forall_mem_nil _ | rfl | exact OneC.one | exact KRow.oneC' (by assumption)))) ?_ | refine R.cstore hs rfl rfl Try.sz52 (by first | rfl | assumption | exact encV_len _ | exact Enc.len _ | exact len_ub (by assumption) | simp [*]) (by simp [*]) (by first | assumption | exact OneL.all | exact Enc.one _ | exact ub_all _ | (repeat' (first | refine List.forall_mem_cons.2 ⟨?_, ?_⟩ | exact List.forall_mem_nil _ | rfl | exact OneC.one | exact KRow.oneC' (by assumption)))) ?_
                                        intro w43_1 hs
                                        try simp only [List.set_cons_zero, List.set_cons_succ] at hs
                                        refine R.ev rfl (E.assign rfl) ?_
                                        refine R.done ?_
                                        refine X.keep [(2, _), (3, _)] ⟨rfl, rfl, trivial⟩ ?_
                                        refine X.next ?_
                                        refine C.ret ?_
                                        refine X.thenRet ?_
                                        refine X.blockRet ?_
                                        refine X.thenRet ?_
                                        refine X.loopRet ?_
                                        refine X.blockRet ?_
                                        refine X.thenRet ?_
                                        refine X.resCT rfl rfl Try.underlying52 rfl Try.sz52 (by first | exact ⟨hs.ldA, by first | rfl | assumption | exact encV_len _ | exact Enc.len _ | exact len_ub (by assumption)⟩ | exact ⟨hs.ldP rfl, by first | rfl | assumption | exact encV_len _ | exact Enc.len _ | exact len_ub (by assumption)⟩ | exact ⟨by assumption, by first | rfl | assumption | exact encV_len _ | exact Enc.len _ | exact len_ub (by assumption)⟩) rfl ?_
                                        have est : (dStep (⟨P.drop a, 0⟩, L1)).1.err = 3 := by show ((dS2 (⟨P.drop a, 0⟩, L1)).num isTr).err = 3; rw [es2]; exact num_bad rfl (by simp only [List.length_drop]; omega) htb
                                        exact RDPost.err (by rw [hste (by rw [est]; decide), est]) (by decide) hs.to
                                      · have htb : isTr (toI ((P.drop (a + 40)).take 8)) = true := by rw [← q7.1]; simpa using h140
                                        refine C.skip ?_
                                        refine X.next ?_
                                        refine C.seq ?_
                                        refine C.region ?_
                                        have ev2 : (dS2 (⟨P.drop a, 0⟩, L1)).val = tr := by rw [q7.2 htb, es2]; exact val_good rfl (by simp only [List.length_drop]; omega)
                                        have hstep : dStep (⟨P.drop a, 0⟩, L1) = (⟨P.drop (a + 48), 0⟩, L1 ++ [⟨id, du, tr⟩]) := by
                                          rw [dStep, ev1, ev2, hid, es2, num_good rfl (by simp only [List.length_drop]; omega) htb]; simp only [List.drop_drop]
                                        have hLm : (L1.map toRE).length ≤ 10000 := by rw [List.length_map]; omega
                                        first | refine R.ev rfl (E.fieldAddr0 3 rfl Try.underlying52 rfl Try.sz50 rfl) ?_ | refine R.ev rfl (E.fieldAddrN 3 rfl Try.underlying52 rfl Try.sz50 rfl) ?_
                                        refine R.ev rfl (E.load1 rfl Try.underlying50 rfl (by first | exact hs.ldc | exact hs.ld rfl | exact hs.ld (by assumption) | exact by assumption | exact At.cellC (by assumption))) ?_
                                        refine R.ev rfl (E.loadRowC rfl Try.underlying90 rfl Try.sz90 (by first | exact ⟨hs.ldA, by first | rfl | assumption | exact encV_len _ | exact Enc.len _ | exact len_ub (by assumption)⟩ | exact ⟨hs.ldP rfl, by first | rfl | assumption | exact encV_len _ | exact Enc.len _ | exact len_ub (by assumption)⟩ | exact ⟨hs.ldM rfl rfl, by first | rfl | assumption | exact encV_len _ | exact Enc.len _ | exact len_ub (by assumption)⟩ | exact ⟨hs.ldM (by assumption) (by first | rfl | assumption), by first | rfl | assumption | exact encV_len _ | exact Enc.len _ | exact len_ub (by assumption)⟩ | exact ⟨by assumption, by first | rfl | assumption | exact encV_len _ | exact Enc.len _ | exact len_ub (by assumption)⟩ | exact hs.ldp | exact At.partC (by assumption))) ?_
                                        refine R.buildSliceA rfl Try.underlying50 Try.sz90 Try.zr90 rfl (by first | rfl | assumption | exact encV_len _ | exact Enc.len _ | simp [*]) (by decide) (by decide) ?_
                                        intro b145 w145 n145
                                        have hs := hs.new n145
                                        refine R.capp1 (⟨id, du, tr, false⟩) hs rfl rfl Try.underlying50 Try.by90 (by rfl) rfl (by first | exact hs.ldA | exact hs.ldP rfl | exact by assumption) (by decide) (by first | omega | (simp only [List.length_append, List.length_cons, List.length_nil] at *; omega)) (by first | omega | (simp only [List.length_append, List.length_cons, List.length_nil] at *; omega)) ?_
                                        intro v146 w146 F146 r146 hs
                                        have o146 : OneC v146 := ⟨RowL.oneC⟩
                                        first | refine R.ev rfl (E.fieldAddr0 3 rfl Try.underlying52 rfl Try.sz50 rfl) ?_ | refine R.ev rfl (E.fieldAddrN 3 rfl Try.underlying52 rfl Try.sz50 rfl) ?_
                                        refine R.cstore1 hs rfl rfl Try.sz50 (by first | decide | simp [*]) (by first | rfl | exact OneC.one | exact KRow.oneC' (by assumption)) ?_
                                        intro w44_6 hs
                                        try simp only [List.set_cons_zero, List.set_cons_succ] at hs
                                        refine R.done ?_
                                        refine X.keep [(0, _), (2, _), (6, _), (8, _), (9, _), (10, _)] ⟨rfl, rfl, rfl, rfl, rfl, rfl, trivial⟩ ?_
                                        refine X.next ?_
                                        refine C.region ?_
                                        refine R.ev rfl (E.move rfl) ?_
                                        refine R.ev rfl ((E.add rfl rfl (by omega) (by omega)).isI (c := ((25 + 48 * (i + 1) : Nat) : Int)) (by omega)) ?_
                                        refine R.ev rfl (E.assign rfl) ?_
                                        refine R.done ?_
                                        refine X.keep [(0, _), (2, _), (6, _), (8, _), (9, _), (10, _)] ⟨rfl, rfl, rfl, rfl, rfl, rfl, trivial⟩ ?_
                                        refine X.blockNormal ?_
                                        refine X.next ?_
                                        refine C.region ?_
                                        refine R.ev rfl (E.move rfl) ?_
                                        refine R.ev rfl ((E.add rfl rfl (by omega) (by omega)).isI (c := ((i + 1 : Nat) : Int)) (by omega)) ?_
                                        refine R.ev rfl (E.assign rfl) ?_
                                        refine R.done ?_
                                        refine X.keep [(0, _), (2, _), (6, _), (8, _), (9, _), (10, _)] ⟨rfl, rfl, rfl, rfl, rfl, rfl, trivial⟩ ?_
                                        exact X.again (i + 1, L1 ++ [⟨id, du, tr⟩], v146, F146) ⟨rfl, rfl, rfl, rfl, rfl, rfl, trivial⟩ ⟨by simp [hil], by omega, by omega, by rw [hen, dLoop, if_pos rfl, hstep, show a + 48 = 25 + 48 * (i + 1) by omega], by rw [List.map_append]; exact r146, hs.to⟩ (by show _ - _ < _ - _; omega)
                    · refine C.exit ?_
                      refine X.thenExit ?_
                      refine X.loopExit ?_
                      refine X.blockExit ?_
                      refine X.next ?_
                      refine C.seq ?_
                      refine C.seq ?_
                      refine C.region ?_
                      have hst : dEnd P = (⟨P.drop a, 0⟩, L1) := by rw [hend, show (dN P).toNat - i = 0 by omega]; rfl
                      refine R.ev rfl (E.move rfl) ?_
                      refine R.ev rfl (E.lenSl rfl Try.underlying57) ?_
                      refine R.ev rfl (E.move rfl) ?_
                      refine R.ev rfl (E.gtr rfl rfl) ?_
                      refine R.done ?_
                      refine X.keep [(2, _), (6, _), (153, _)] ⟨rfl, rfl, rfl, trivial⟩ ?_
                      refine X.next ?_
                      refine C.cdec rfl (fun h153 => ?_) (fun h153 => ?_)
                      · refine C.seq ?_
                        refine C.region ?_
                        refine R.ev rfl (E.buildG (r := [.int .i64 0, .int .i64 0, .bool false, .slice none 0 0]) rfl Try.underlying52 Try.zr52 Try.ql52 (by kernel_rfl) (by kernel_rfl) trivial (by first | rfl | simp [setF, fieldsOf, Value.cells])) ?_
                        first | refine R.cstoreAll hs rfl rfl Try.sz52 (by first | rfl | assumption | exact encV_len _ | exact Enc.len _ | exact len_ub (by assumption) | simp [*]) (by first | rfl | assumption | exact encV_len _ | exact Enc.len _ | exact len_ub (by assumption) | simp [*]) (by first | assumption | exact OneL.all | exact Enc.one _ | exact ub_all _ | (repeat' (first | refine List.forall_mem_cons.2 ⟨?_, ?_⟩ | exact List.forall_mem_nil _ | rfl | exact OneC.one | exact KRow.oneC' (by assumption)))) ?_ | refine R.cstore hs rfl rfl Try.sz52 (by first | rfl | assumption | exact encV_len _ | exact Enc.len _ | exact len_ub (by assumption) | simp [*]) (by simp [*]) (by first | assumption | exact OneL.all | exact Enc.one _ | exact ub_all _ | (repeat' (first | refine List.forall_mem_cons.2 ⟨?_, ?_⟩ | exact List.forall_mem_nil _ | rfl | exact OneC.one | exact KRow.oneC' (by assumption)))) ?_
                        intro w47_1 hs
                        try simp only [List.set_cons_zero, List.set_cons_succ] at hs
                        refine R.ev rfl (E.assign rfl) ?_
                        refine R.done ?_
                        refine X.keep [(2, _), (3, _)] ⟨rfl, rfl, trivial⟩ ?_
                        refine X.next ?_
                        refine C.ret ?_
                        refine X.thenRet ?_
                        refine X.resCT rfl rfl Try.underlying52 rfl Try.sz52 (by first | exact ⟨hs.ldA, by first | rfl | assumption | exact encV_len _ | exact Enc.len _ | exact len_ub (by assumption)⟩ | exact ⟨hs.ldP rfl, by first | rfl | assumption | exact encV_len _ | exact Enc.len _ | exact len_ub (by assumption)⟩ | exact ⟨by assumption, by first | rfl | assumption | exact encV_len _ | exact Enc.len _ | exact len_ub (by assumption)⟩) rfl ?_
                        exact RDPost.err (by rw [decE, hst, if_pos ⟨rfl, by simp only [List.length_drop]; omega⟩]) (by decide) hs.to
                      · refine C.skip ?_
                        refine X.next ?_
                        refine C.seq ?_
                        refine C.region ?_
                        refine R.ev rfl (E.loadRowC rfl Try.underlying52 rfl Try.sz52 (by first | exact ⟨hs.ldA, by first | rfl | assumption | exact encV_len _ | exact Enc.len _ | exact len_ub (by assumption)⟩ | exact ⟨hs.ldP rfl, by first | rfl | assumption | exact encV_len _ | exact Enc.len _ | exact len_ub (by assumption)⟩ | exact ⟨hs.ldM rfl rfl, by first | rfl | assumption | exact encV_len _ | exact Enc.len _ | exact len_ub (by assumption)⟩ | exact ⟨hs.ldM (by assumption) (by first | rfl | assumption), by first | rfl | assumption | exact encV_len _ | exact Enc.len _ | exact len_ub (by assumption)⟩ | exact ⟨by assumption, by first | rfl | assumption | exact encV_len _ | exact Enc.len _ | exact len_ub (by assumption)⟩ | exact hs.ldp | exact At.partC (by assumption))) ?_
                        first | refine R.cstoreAll hs rfl rfl Try.sz52 (by first | rfl | assumption | exact encV_len _ | exact Enc.len _ | exact len_ub (by assumption) | simp [*]) (by first | rfl | assumption | exact encV_len _ | exact Enc.len _ | exact len_ub (by assumption) | simp [*]) (by first | assumption | exact OneL.all | exact Enc.one _ | exact ub_all _ | (repeat' (first | refine List.forall_mem_cons.2 ⟨?_, ?_⟩ | exact List.forall_mem_nil _ | rfl | exact OneC.one | exact KRow.oneC' (by assumption)))) ?_ | refine R.cstore hs rfl rfl Try.sz52 (by first | rfl | assumption | exact encV_len _ | exact Enc.len _ | exact len_ub (by assumption) | simp [*]) (by simp [*]) (by first | assumption | exact OneL.all | exact Enc.one _ | exact ub_all _ | (repeat' (first | refine List.forall_mem_cons.2 ⟨?_, ?_⟩ | exact List.forall_mem_nil _ | rfl | exact OneC.one | exact KRow.oneC' (by assumption)))) ?_
                        intro w48_1 hs
                        try simp only [List.set_cons_zero, List.set_cons_succ] at hs
                        refine R.ev rfl (E.assign rfl) ?_
                        refine R.done ?_
                        refine X.keep [(2, _), (3, _)] ⟨rfl, rfl, trivial⟩ ?_
                        refine X.next ?_
                        refine C.ret ?_
                        refine X.resCT rfl rfl Try.underlying52 rfl Try.sz52 (by first | exact ⟨hs.ldA, by first | rfl | assumption | exact encV_len _ | exact Enc.len _ | exact len_ub (by assumption)⟩ | exact ⟨hs.ldP rfl, by first | rfl | assumption | exact encV_len _ | exact Enc.len _ | exact len_ub (by assumption)⟩ | exact ⟨by assumption, by first | rfl | assumption | exact encV_len _ | exact Enc.len _ | exact len_ub (by assumption)⟩) rfl ?_
                        have hz : decE P = 0 := by rw [decE, hst, if_neg (by simp only [List.length_drop]; omega)]
                        have hd : vw (decS P) = ⟨dCap P, dWt P, decide (dFl P = 1), L1.map toRE⟩ := by
                          rw [decS, hst]; rfl
                        obtain ⟨K2, hk2, rr, hs⟩ := rL.freezeK (hs.front (F := G1))
                        exact ⟨K2, ⟨dCap P, dWt P, decide (dFl P = 1), L1.map toRE⟩, vL, by rw [hz], hk2, fun _ => hd.symm, rr, hs.to⟩
end Go.Proofs.Ytoidpcmcbmioiaa
