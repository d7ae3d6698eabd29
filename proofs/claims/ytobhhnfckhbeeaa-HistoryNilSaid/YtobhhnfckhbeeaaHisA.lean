/-
  Arguments of chapter 25: entries, operations.
-/
import Derived.Test.YtobhhnfckhbeeaaHisK
import Derived.Test.YtobhhnfckhbeeaaArg
namespace Go.Eng
theorem argv_struct {P : Program} {w : World} {t : TypeId} {v : Value} {fs : Array Field} (h : ArgV P w t v) (hu : P.underlying t = some (.struct fs)) : ∃ n cs, Fit P w n t cs ∧ v = .agg cs.toArray := by
  obtain ⟨n, cs, hf, hm⟩ := h
  rw [hu] at hm
  exact ⟨n, cs, hf, hm⟩
end Go.Eng
namespace Go.Proofs.Ytobhhnfckhbeeaa
open Go.Eng Go.RowKit
theorem list36 {x : List Value} (h : x.length = 36) : ∃ l a b c d, x = l ++ [a, b, c, d] ∧ l.length = 32 := by
  refine ⟨x.take 32, x[32], x[33], x[34], x[35], ?_, by simp [h]⟩
  have := List.take_append_drop 32 x
  rw [List.drop_eq_getElem_cons (by omega), List.drop_eq_getElem_cons (by omega), List.drop_eq_getElem_cons (by omega), List.drop_eq_getElem_cons (by omega), List.drop_eq_nil_of_le (by omega)] at this
  exact this.symm
theorem fit_x {w : World} (n : Nat) (x : List Value) (hx : x.length = 36) (h : Fit Try.prog w n 24 x) : ∃ y, x = encH y := by
  obtain ⟨n', _, hf⟩ := fit_struct h Try.underlying24
  obtain ⟨l, a, b, c, d, rfl, hl⟩ := list36 hx
  have f0 : Fit Try.prog w n' 22 (((l ++ [a, b, c, d]).drop 0).take (Try.prog.cellsOf 22)) := hf 0 _ rfl
  have f1 : Fit Try.prog w n' 3 (((l ++ [a, b, c, d]).drop 32).take (Try.prog.cellsOf 3)) := hf 1 _ rfl
  have f2 : Fit Try.prog w n' 3 (((l ++ [a, b, c, d]).drop 33).take (Try.prog.cellsOf 3)) := hf 2 _ rfl
  have f3 : Fit Try.prog w n' 3 (((l ++ [a, b, c, d]).drop 34).take (Try.prog.cellsOf 3)) := hf 3 _ rfl
  have f4 : Fit Try.prog w n' 4 (((l ++ [a, b, c, d]).drop 35).take (Try.prog.cellsOf 4)) := hf 4 _ rfl
  have c0 : Try.prog.cellsOf 3 = 1 := by kernel_rfl
  have c1 : Try.prog.cellsOf 22 = 32 := by kernel_rfl
  have c2 : Try.prog.cellsOf 4 = 1 := by kernel_rfl
  have c3 : Try.prog.cellsOf 5 = 1 := by kernel_rfl
  simp only [c0, c1, c2] at f0 f1 f2 f3 f4
  have e0 : ((l ++ [a, b, c, d]).drop 0).take 32 = l := by simp [← hl]
  have e1 : ((l ++ [a, b, c, d]).drop 32).take 1 = [a] := by rw [show 32 = l.length + 0 by omega, ← List.drop_drop]; simp
  have e2 : ((l ++ [a, b, c, d]).drop 33).take 1 = [b] := by rw [show 33 = l.length + 1 by omega, ← List.drop_drop]; simp
  have e3 : ((l ++ [a, b, c, d]).drop 34).take 1 = [c] := by rw [show 34 = l.length + 2 by omega, ← List.drop_drop]; simp
  have e4 : ((l ++ [a, b, c, d]).drop 35).take 1 = [d] := by rw [show 35 = l.length + 3 by omega, ← List.drop_drop]; simp
  rw [e0] at f0
  rw [e1] at f1
  rw [e2] at f2
  rw [e3] at f3
  rw [e4] at f4
  obtain ⟨i, hi, rfl⟩ := fit_bytes (m := 32) f0 Try.underlying22 Try.underlying5 c3 c1
  obtain ⟨n1, hn1, _⟩ := fit_int f1 Try.underlying3
  obtain ⟨n2, hn2, _⟩ := fit_int f2 Try.underlying3
  obtain ⟨n3, hn3, _⟩ := fit_int f3 Try.underlying3
  obtain ⟨bb, hbb⟩ := fit_bool f4 Try.underlying4
  simp only [List.cons.injEq, and_true] at hn1 hn2 hn3 hbb
  subst hn1 hn2 hn3 hbb
  exact ⟨⟨⟨i, hi⟩, n1, n2, n3, bb⟩, rfl⟩
theorem argv_x {w : World} {v : Value} (h : ArgV Try.prog w 24 v) : ∃ y, v = evH y := by
  obtain ⟨n, cs, hf, hm⟩ := argv_struct h Try.underlying24
  obtain ⟨n', hl, _⟩ := fit_struct hf Try.underlying24
  obtain ⟨y, rfl⟩ := fit_x n cs (by rw [hl]; kernel_rfl) hf
  exact ⟨y, hm⟩
end Go.Proofs.Ytobhhnfckhbeeaa
