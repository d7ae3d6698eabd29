/-
 Chapter 19: what the condition on the listed variable gives; the arguments of the statements.
-/
import Derived.Test.YtbkgibgomohdjaaGreatDoorRows
import Derived.Test.YtbkgibgomohdjaaGreatDoorCards
import Derived.Test.YtbkgibgomohdjaaGreatDoorTie
import Derived.Test.YtbkgibgomohdjaaGreatDoorKrM
import Derived.Test.YtbkgibgomohdjaaGreatDoorOpen
import Derived.Test.YtbkgibgomohdjaaGreatDoorArg
import Derived.LaidMore
import Derived.SevenTiedAt
import Derived.Stop.Joined
namespace Go.Eng
end Go.Eng
namespace Go.Proofs.YtbkgibgomohdjaaGreatDoor
open Go.Eng Go.RowKit Go.Sort
theorem kc_data : (Rows.laid_bulletin_sha256_constants : DataW Unit) = .agg (kcL.map fun x => .lit (.int .u32 (x.toNat : Int))) := by rfl
theorem Tryz.gKc : Tryz.prog.globalNamed "bulletin/sha256.constants" = some 1 := by kernel_rfl
theorem Tryz.tKc : (Tryz.prog.globals[1]?).map (·.type) = some 141 := by kernel_rfl
theorem Tryz.cu32 : Tryz.prog.cellsOf 133 = 1 := by kernel_rfl
theorem laid_kc {W : World} (h : laidMetH Tryz.prog [("bulletin/sha256.constants", Rows.laid_bulletin_sha256_constants)] W) : HasKc (Kn.of W) := by
 rw [MakeChecks.laidMetH_plain _ _ _ (by kernel_rfl)] at h
 obtain ⟨ps, ⟨g0, t0, cs0, f0, p0, q0, hg0, ht0, hv0, hd0, _, _⟩, _, _⟩ := h
 obtain rfl := Option.some.inj (Tryz.gKc.symm.trans hg0)
 obtain rfl := Option.some.inj (Tryz.tKc.symm.trans ht0)
 obtain ⟨xs, m1, rfl, hx, hl, hn, hel⟩ := DataW.trod_array Tryz.underlying141 hd0
 rw [kc_data] at hx
 simp only [Prod.mk.injEq, DataW.agg.injEq] at hx
 rw [Tryz.cu32] at hel
 refine ⟨KAt.of fun k v hv => ?_⟩
 have hk : k < 64 := by
   have := (List.getElem?_eq_some_iff.1 hv).1
   simpa [kcL] using this
 rw [List.getElem?_map, kc_at hk] at hv
 obtain rfl := Option.some.inj hv
 have h1 := hel k (by omega)
 have hx1 : (xs.map (·.1))[k]? = some (.lit (.int .u32 ((kc k).toNat : Int))) := by
   rw [← hx.1, List.getElem?_map, kc_at hk]; rfl
 rw [List.getElem?_map] at hx1
 obtain ⟨x, hx2, hx3⟩ := Option.map_eq_some_iff.1 hx1
 rw [hx2] at h1
 obtain ⟨b, hb, hb2⟩ := DataW.trod_int Tryz.underlying133 h1
 have hbm : b = ((kc k).toNat : Int) := by
   rw [hb2.1] at hx3
   simpa using hx3
 have hc : cs0.toList[k]? = some (.int .u32 b) := by
   have := congrArg (fun l => l[0]?) hb
   simp only [List.getElem?_take, List.getElem?_drop] at this
   simpa using this
 have := World.var?_cell hg0 hv0 k
 rw [Nat.zero_add, this, ← Array.getElem?_toList, hc, hbm]
/-! the arguments -/
theorem fit_cell {w : World} {n : Nat} {x : List Value} (h : Fit Tryz.prog w n 5 x) : ∃ b : UInt8, x = [ub b] := fit_u8 h Tryz.underlying5
theorem fit_mv {w : World} (n : Nat) (x : List Value) (hx : x.length = 7) (h : Fit Tryz.prog w n 66 x) : ∃ y, x = encMv y := by
 obtain ⟨n', _, hf⟩ := fit_struct h Tryz.underlying66
 have c1 : Tryz.prog.cellsOf 5 = 1 := by kernel_rfl
 have f0 : Fit Tryz.prog w n' 5 ((x.drop 0).take (Tryz.prog.cellsOf 5)) := hf 0 _ rfl
 have f1 : Fit Tryz.prog w n' 5 ((x.drop 1).take (Tryz.prog.cellsOf 5)) := hf 1 _ rfl
 have f2 : Fit Tryz.prog w n' 5 ((x.drop 2).take (Tryz.prog.cellsOf 5)) := hf 2 _ rfl
 have f3 : Fit Tryz.prog w n' 5 ((x.drop 3).take (Tryz.prog.cellsOf 5)) := hf 3 _ rfl
 have f4 : Fit Tryz.prog w n' 5 ((x.drop 4).take (Tryz.prog.cellsOf 5)) := hf 4 _ rfl
 have f5 : Fit Tryz.prog w n' 5 ((x.drop 5).take (Tryz.prog.cellsOf 5)) := hf 5 _ rfl
 have f6 : Fit Tryz.prog w n' 5 ((x.drop 6).take (Tryz.prog.cellsOf 5)) := hf 6 _ rfl
 rw [c1] at f0 f1 f2 f3 f4 f5 f6
 obtain ⟨b0, h0⟩ := fit_cell f0
 obtain ⟨b1, h1⟩ := fit_cell f1
 obtain ⟨b2, h2⟩ := fit_cell f2
 obtain ⟨b3, h3⟩ := fit_cell f3
 obtain ⟨b4, h4⟩ := fit_cell f4
 obtain ⟨b5, h5⟩ := fit_cell f5
 obtain ⟨b6, h6⟩ := fit_cell f6
 clear f0 f1 f2 f3 f4 f5 f6 hf h
 match x, hx with
 | [a0, a1, a2, a3, a4, a5, a6], _ =>
   simp only [List.drop_zero, List.drop_succ_cons, List.take_succ_cons, List.take_zero, List.cons.injEq, and_true] at h0 h1 h2 h3 h4 h5 h6
   subst h0 h1 h2 h3 h4 h5 h6
   exact ⟨⟨b0, b1, b2, b3, b4, b5, b6⟩, rfl⟩
theorem argv_mvs {w : World} {v : Value} (h : ArgV Tryz.prog w 22 v) : ∃ ad cap ms, v = .slice ad ms.length cap ∧ ms.length ≤ cap ∧ cap ≤ maxLen ∧ KRow encMv 7 (Kn.of w) v ms :=
 argv_slK h Tryz.underlying22 (by kernel_rfl) (by decide) fit_mv
end Go.Proofs.YtbkgibgomohdjaaGreatDoor
