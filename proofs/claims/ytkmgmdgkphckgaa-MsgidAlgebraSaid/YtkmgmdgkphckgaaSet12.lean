/-
  package bulletinlaw11: to; the reference's Pick.
-/
import Derived.Test.YtkmgmdgkphckgaaSet11
import Derived.Test.YtkmgmdgkphckgaaArg
namespace Go.Proofs.Ytkmgmdgkphckgaa
open Go.Eng Go.RowKit

variable {K : Kn} {Hs Rs : List Hl} {F : Hl} {w : World} {v va vb : Value} {A B L : List (Vec 32)}
theorem to2_any (hs : Sat K w Hs) [hrd : Rd encV 32 K Hs v L] (hn : L.length ≤ 40) : Ret Try.prog 25 #[v] w fun r w' => ∃ F', RowL 30 encV 32 r L F' ∧ Sat K w' (F' :: Hs) := by
  obtain ⟨ad, c, rfl, _⟩ := hrd.ex
  refine Ret.enter (n := 23) (args := [.slice ad L.length c]) Try.func25 rfl rfl ?_
  refine C.keep [(0, _)] ⟨rfl, trivial⟩ ?_
  refine C.seq ?_
  refine C.region ?_
  refine R.ev rfl (E.assign rfl) ?_
  refine R.done ?_
  refine X.keep [(0, _)] ⟨rfl, trivial⟩ ?_
  refine X.next ?_
  refine C.seq ?_
  refine C.region ?_
  refine R.ev rfl (E.assign rfl) ?_
  refine R.done ?_
  refine X.keep [(0, _), (3, _)] ⟨rfl, rfl, trivial⟩ ?_
  refine X.next ?_
  refine C.seq ?_
  refine C.seq ?_
  refine C.region ?_
  refine R.ev rfl (E.assign rfl) ?_
  refine R.done ?_
  refine X.keep [(0, _), (3, _), (4, _)] ⟨rfl, rfl, rfl, trivial⟩ ?_
  refine X.next ?_
  refine C.block ?_
  refine C.loop (T := Nat × Value × Hl) [(0, _)] (fun (k, v, _) => [(3, v), (4, .int .i64 (k : Nat))]) (fun (k, v, F') w' => k ≤ L.length ∧ RowL 30 encV 32 v (L.take k) F' ∧ Sat K w' (F' :: Hs)) (fun (k, _) => L.length - k) ((0, .slice none 0 0, [])) ⟨rfl, rfl, rfl, trivial⟩ ⟨by omega, RowL.nilI, hs.nil⟩ ?_
  rintro ⟨k, v, F'⟩ w1 ⟨hk, r1, hs⟩
  have hlen : (L.take k).length = k := by simp; omega
  refine C.keep [(0, _), (3, _), (4, _)] ⟨rfl, rfl, rfl, trivial⟩ ?_
  refine C.seq ?_
  refine C.seq ?_
  refine C.region ?_
  refine R.ev rfl (E.move rfl) ?_
  refine R.ev rfl (E.move rfl) ?_
  refine R.ev rfl (E.lenSl rfl Try.underlying45) ?_
  refine R.ev rfl (E.lss rfl rfl) ?_
  refine R.ev rfl (E.move rfl) ?_
  refine R.split 9 rfl (fun h9 => ?_) (fun h9 => ?_)
  · refine R.gyes rfl rfl ?_
    refine R.ev rfl (E.move rfl) ?_
    refine R.gyes rfl rfl ?_
    refine R.ev rfl (E.lss rfl rfl) ?_
    refine R.ev rfl (E.pickT rfl rfl) ?_
    refine R.done ?_
    refine X.keep [(0, _), (3, _), (4, _), (12, _)] ⟨rfl, rfl, rfl, rfl, trivial⟩ ?_
    refine X.next ?_
    refine C.cbool rfl (fun h12 => ?_) (fun h12 => ?_)
    · have h9' := of_decide_eq_true h9
      obtain ⟨y, bk_y, of_y, hy, my, ly, rfl, Ay⟩ := hs.el (i := k) (ad := ad) (n := L.length) (c := c) (by omega)
      have ay := Ay _ hs
      refine C.skip ?_
      refine X.next ?_
      refine C.seq ?_
      refine C.block ?_
      refine C.region ?_
      refine R.ev rfl (E.move rfl) ?_
      refine R.ev rfl (E.move rfl) ?_
      refine R.ev rfl (E.move rfl) ?_
      refine R.ev rfl (E.indexAddr rfl rfl Try.underlying45 Try.sz23 rfl (by first | omega | decide)) ?_
      refine R.ev rfl (E.loadRowC rfl Try.underlying23 rfl Try.sz23 ⟨Ay _ hs, Enc.len _⟩) ?_
      refine R.buildSliceA rfl Try.underlying50 Try.sz30 Try.zr30 rfl (by first | rfl | assumption | exact encV_len _ | exact Enc.len _ | simp [*]) (by decide) (by decide) ?_
      intro b20 w20 n20
      have hs := hs.new n20
      refine R.capp1 (y) hs rfl rfl Try.underlying50 Try.by30 (by rfl) rfl (by first | exact hs.ldA | exact hs.ldP rfl | exact by assumption) (by decide) (by first | omega | (simp only [List.length_append, List.length_cons, List.length_nil] at *; omega)) (by first | omega | (simp only [List.length_append, List.length_cons, List.length_nil] at *; omega)) ?_
      intro v21 w21 F21 r21 hs
      refine R.ev rfl (E.assign rfl) ?_
      refine R.done ?_
      refine X.keep [(0, _), (3, _), (4, _)] ⟨rfl, rfl, rfl, trivial⟩ ?_
      refine X.blockNormal ?_
      refine X.next ?_
      refine C.region ?_
      refine R.ev rfl (E.move rfl) ?_
      refine R.ev rfl (E.add rfl rfl (by omega) (by omega)) ?_
      refine R.ev rfl (E.assign rfl) ?_
      refine R.done ?_
      refine X.keep [(0, _), (3, _), (4, _)] ⟨rfl, rfl, rfl, trivial⟩ ?_
      exact X.again (k + 1, v21, F21) ⟨rfl, rfl, rfl, trivial⟩ ⟨by omega, by rw [take_snoc hy]; exact r21, hs.to⟩ (by show _ - _ < _ - _; omega)
    · refine C.exit ?_
      refine X.thenExit ?_
      refine X.loopExit ?_
      refine X.blockExit ?_
      refine X.next ?_
      refine C.seq ?_
      refine C.region ?_
      refine R.ev rfl (E.move rfl) ?_
      refine R.ev rfl (E.assign rfl) ?_
      refine R.done ?_
      refine X.keep [(2, _)] ⟨rfl, trivial⟩ ?_
      refine X.next ?_
      refine C.ret ?_
      refine X.ret1 rfl rfl ?_
      have hkl : k = L.length := by first | (have := of_decide_eq_false h12; omega) | (have := of_decide_eq_false h9; omega)
      exact ⟨F', by rwa [hkl, List.take_length] at r1, hs⟩
  · refine R.gskip rfl rfl rfl ?_
    refine R.gskip rfl rfl rfl ?_
    refine R.ev rfl (E.pickF rfl rfl) ?_
    refine R.done ?_
    refine X.keep [(0, _), (3, _), (4, _), (12, _)] ⟨rfl, rfl, rfl, rfl, trivial⟩ ?_
    refine X.next ?_
    refine C.cfalse rfl ?_
    refine C.exit ?_
    refine X.thenExit ?_
    refine X.loopExit ?_
    refine X.blockExit ?_
    refine X.next ?_
    refine C.seq ?_
    refine C.region ?_
    refine R.ev rfl (E.move rfl) ?_
    refine R.ev rfl (E.assign rfl) ?_
    refine R.done ?_
    refine X.keep [(2, _)] ⟨rfl, trivial⟩ ?_
    refine X.next ?_
    refine C.ret ?_
    refine X.ret1 rfl rfl ?_
    have hkl : k = L.length := by first | (have := of_decide_eq_false h12; omega) | (have := of_decide_eq_false h9; omega)
    exact ⟨F', by rwa [hkl, List.take_length] at r1, hs⟩
theorem rpick_any (both : Bool) (hs : Sat K w Hs) [ha : Rd encV 32 K Hs va A] [hb : Rd encV 32 K Hs vb B] (hn : A.length ≤ 500) (hn2 : B.length ≤ 500) : Ret Try.prog 35 #[va, vb, .bool both] w fun r w' => ∃ L' F', RowL 30 encV 32 r L' F' ∧ SS ltV L' ∧ (∀ x, x ∈ L' ↔ x ∈ A ∧ decide (x ∈ B) = both) ∧ Sat K w' (F' :: Hs) := by
  obtain ⟨ad, c, rfl, _⟩ := ha.ex
  refine Ret.enter (n := 32) (args := [.slice ad A.length c, vb, .bool both]) Try.func35 rfl rfl ?_
  refine C.keep [(0, _), (1, _), (2, _)] ⟨rfl, rfl, rfl, trivial⟩ ?_
  refine C.seq ?_
  refine C.region ?_
  refine R.ev rfl (E.assign rfl) ?_
  refine R.done ?_
  refine X.keep [(0, _), (1, _), (2, _)] ⟨rfl, rfl, rfl, trivial⟩ ?_
  refine X.next ?_
  refine C.seq ?_
  refine C.region ?_
  refine R.ev rfl (E.assign rfl) ?_
  refine R.done ?_
  refine X.keep [(0, _), (1, _), (2, _), (7, _)] ⟨rfl, rfl, rfl, rfl, trivial⟩ ?_
  refine X.next ?_
  refine C.seq ?_
  refine C.seq ?_
  refine C.region ?_
  refine R.ev rfl (E.assign rfl) ?_
  refine R.done ?_
  refine X.keep [(0, _), (1, _), (2, _), (7, _), (8, _)] ⟨rfl, rfl, rfl, rfl, rfl, trivial⟩ ?_
  refine X.next ?_
  refine C.block ?_
  refine C.loop (T := Nat × Value × Hl) [(0, _), (1, _), (2, _)] (fun (k, v, _) => [(7, v), (8, .int .i64 (k : Nat))]) (fun (k, v, F') w' => k ≤ A.length ∧ RowL 30 encV 32 v ((A.take k).filter (fun x => decide (x ∈ B) == both)) F' ∧ Sat K w' (F' :: Hs)) (fun (k, _) => A.length - k) ((0, .slice none 0 0, [])) ⟨rfl, rfl, rfl, rfl, rfl, trivial⟩ ⟨by omega, RowL.nilI, hs.nil⟩ ?_
  rintro ⟨k, v, F'⟩ w1 ⟨hk, r1, hs⟩
  have hlen : ((A.take k).filter (fun x => decide (x ∈ B) == both)).length ≤ k := by have := List.length_filter_le (fun x => decide (x ∈ B) == both) (A.take k); rw [List.length_take] at this; omega
  refine C.keep [(0, _), (1, _), (2, _), (7, _), (8, _)] ⟨rfl, rfl, rfl, rfl, rfl, trivial⟩ ?_
  refine C.seq ?_
  refine C.seq ?_
  refine C.region ?_
  refine R.ev rfl (E.move rfl) ?_
  refine R.ev rfl (E.move rfl) ?_
  refine R.ev rfl (E.lenSl rfl Try.underlying50) ?_
  refine R.ev rfl (E.lss rfl rfl) ?_
  refine R.done ?_
  refine X.keep [(0, _), (1, _), (2, _), (7, _), (8, _), (12, _)] ⟨rfl, rfl, rfl, rfl, rfl, rfl, trivial⟩ ?_
  refine X.next ?_
  refine C.cdec rfl (fun h12 => ?_) (fun h12 => ?_)
  · obtain ⟨y, bk_y, of_y, hy, my, ly, rfl, Ay⟩ := hs.el (i := k) (ad := ad) (n := A.length) (c := c) (by omega)
    have ay := Ay _ hs
    refine C.skip ?_
    refine X.next ?_
    refine C.seq ?_
    refine C.block ?_
    refine C.seq ?_
    refine C.region ?_
    refine R.ev rfl (E.move rfl) ?_
    refine R.ev rfl (E.move rfl) ?_
    refine R.ev rfl (E.move rfl) ?_
    refine R.ev rfl (E.indexAddr rfl rfl Try.underlying50 Try.sz30 rfl (by first | omega | decide)) ?_
    refine R.ev rfl (E.loadRowC rfl Try.underlying30 rfl Try.sz30 ⟨Ay _ hs, Enc.len _⟩) ?_
    refine R.call ⟨_, _, Try.func28, rfl, by kernel_rfl⟩ rfl rfl (rhas_any (L := B) y hs (by omega)) ?_
    rintro _ w5 ⟨rfl, hs⟩
    refine R.ev rfl (E.move rfl) ?_
    refine R.ev rfl (E.eqlB rfl rfl Try.underlying4) ?_
    refine R.done ?_
    refine X.keep [(0, _), (1, _), (2, _), (7, _), (8, _), (22, _)] ⟨rfl, rfl, rfl, rfl, rfl, rfl, trivial⟩ ?_
    refine X.next ?_
    refine C.cbool rfl (fun h22 => ?_) (fun h22 => ?_)
    · have hfl : (A.take (k + 1)).filter (fun x => decide (x ∈ B) == both) = (A.take k).filter (fun x => decide (x ∈ B) == both) ++ [y] := by rw [take_snoc hy, List.filter_append, List.filter_cons, if_pos h22]; rfl
      refine C.region ?_
      refine R.ev rfl (E.move rfl) ?_
      refine R.ev rfl (E.move rfl) ?_
      refine R.ev rfl (E.move rfl) ?_
      refine R.ev rfl (E.indexAddr rfl rfl Try.underlying50 Try.sz30 rfl (by first | omega | decide)) ?_
      refine R.ev rfl (E.loadRowC rfl Try.underlying30 rfl Try.sz30 ⟨Ay _ hs, Enc.len _⟩) ?_
      refine R.buildSliceA rfl Try.underlying50 Try.sz30 Try.zr30 rfl (by first | rfl | assumption | exact encV_len _ | exact Enc.len _ | simp [*]) (by decide) (by decide) ?_
      intro b28 w28 n28
      have hs := hs.new n28
      refine R.capp1 (y) hs rfl rfl Try.underlying50 Try.by30 (by rfl) rfl (by first | exact hs.ldA | exact hs.ldP rfl | exact by assumption) (by decide) (by first | omega | (simp only [List.length_append, List.length_cons, List.length_nil] at *; omega)) (by first | omega | (simp only [List.length_append, List.length_cons, List.length_nil] at *; omega)) ?_
      intro v29 w29 F29 r29 hs
      refine R.ev rfl (E.assign rfl) ?_
      refine R.done ?_
      refine X.keep [(0, _), (1, _), (2, _), (7, _), (8, _)] ⟨rfl, rfl, rfl, rfl, rfl, trivial⟩ ?_
      refine X.blockNormal ?_
      refine X.next ?_
      refine C.region ?_
      refine R.ev rfl (E.move rfl) ?_
      refine R.ev rfl (E.add rfl rfl (by omega) (by omega)) ?_
      refine R.ev rfl (E.assign rfl) ?_
      refine R.done ?_
      refine X.keep [(0, _), (1, _), (2, _), (7, _), (8, _)] ⟨rfl, rfl, rfl, rfl, rfl, trivial⟩ ?_
      first
        | exact X.again (k + 1, v29, F29) ⟨rfl, rfl, rfl, rfl, rfl, trivial⟩ ⟨by omega, by rw [hfl]; exact r29, hs.to⟩ (by show _ - _ < _ - _; omega)
        | exact X.again (k + 1, v, F') ⟨rfl, rfl, rfl, rfl, rfl, trivial⟩ ⟨by omega, by rw [hfl]; exact r1, hs.to⟩ (by show _ - _ < _ - _; omega)
    · have hfl : (A.take (k + 1)).filter (fun x => decide (x ∈ B) == both) = (A.take k).filter (fun x => decide (x ∈ B) == both) := by rw [take_snoc hy, List.filter_append, List.filter_cons, if_neg (by rw [h22]; exact Bool.false_ne_true)]; simp
      refine C.skip ?_
      refine X.blockNormal ?_
      refine X.next ?_
      refine C.region ?_
      refine R.ev rfl (E.move rfl) ?_
      refine R.ev rfl (E.add rfl rfl (by omega) (by omega)) ?_
      refine R.ev rfl (E.assign rfl) ?_
      refine R.done ?_
      refine X.keep [(0, _), (1, _), (2, _), (7, _), (8, _)] ⟨rfl, rfl, rfl, rfl, rfl, trivial⟩ ?_
      first
        | exact X.again (k + 1, v29, F29) ⟨rfl, rfl, rfl, rfl, rfl, trivial⟩ ⟨by omega, by rw [hfl]; exact r29, hs.to⟩ (by show _ - _ < _ - _; omega)
        | exact X.again (k + 1, v, F') ⟨rfl, rfl, rfl, rfl, rfl, trivial⟩ ⟨by omega, by rw [hfl]; exact r1, hs.to⟩ (by show _ - _ < _ - _; omega)
  · refine C.exit ?_
    refine X.thenExit ?_
    refine X.loopExit ?_
    refine X.blockExit ?_
    refine X.next ?_
    refine C.seq ?_
    refine C.region ?_
    refine R.ev rfl (E.move rfl) ?_
    refine R.call ⟨_, _, Try.func32, rfl, by kernel_rfl⟩ rfl rfl (rset_any (L := (A.take k).filter (fun x => decide (x ∈ B) == both)) hs (by omega)) ?_
    rintro v31 w7 ⟨L7, F7, r7, s7, m7, hs⟩
    refine R.ev rfl (E.assign rfl) ?_
    refine R.done ?_
    refine X.keep [(6, _)] ⟨rfl, trivial⟩ ?_
    refine X.next ?_
    refine C.ret ?_
    refine X.ret1 rfl rfl ?_
    exact ⟨L7, F7, r7, s7, fun x => by rw [m7, show k = A.length by omega, List.take_length, List.mem_filter]; simp, hs.to⟩
theorem argv_ids {w : World} {v : Value} (h : ArgV Try.prog w 45 v) : ∃ ad cap, ∃ L : List (Vec 32), v = .slice ad L.length cap ∧ L.length ≤ cap ∧ cap ≤ maxLen ∧ KRow encV 32 (Kn.of w) v L :=
  argv_slK h Try.underlying45 (by kernel_rfl) (by decide) (fit_vec Try.underlying23 Try.underlying5 (by kernel_rfl) (by kernel_rfl))
theorem known2_any (hs : Sat K w Hs) : Ret Try.prog 15 #[] w fun r w' => r = .bool true ∧ Sat K w' Hs := (known_any w).mono fun _ _ ⟨e, m⟩ => ⟨e, hs.keep m⟩
theorem min_len {n m : Nat} : (min (n : Int) (m : Int)) = ((min n m : Nat) : Int) := by omega
end Go.Proofs.Ytkmgmdgkphckgaa
