/-
  What the condition on the listed variable gives: the table's cells.
-/
import Derived.Test.YtajbclcpkgenbaaDoorRows
import Derived.Test.YtajbclcpkgenbaaDoorCards
import Derived.Test.YtajbclcpkgenbaaDoorTie
import Derived.Test.YtajbclcpkgenbaaDoorWinK
import Derived.Test.YtajbclcpkgenbaaDoorOpen
import Derived.LaidMore
import Derived.SevenTiedAt
import Derived.Stop.Joined
namespace Go.Proofs.YtajbclcpkgenbaaDoor
open Go.Eng Go.RowKit

theorem chg_data : (Rows.laid_bulletin_window_changes : DataW Unit) = .agg ((List.range 6).map fun i => .agg ((List.range 6).map fun j => .lit (.bool (may i j)))) := by rfl
theorem Tryd.gChg : Tryd.prog.globalNamed "bulletin/window.changes" = some 0 := by kernel_rfl
theorem Tryd.tChg : (Tryd.prog.globals[0]?).map (·.type) = some 85 := by kernel_rfl
theorem Tryd.c6 : Tryd.prog.cellsOf 84 = 6 := by kernel_rfl
theorem Tryd.c36 : Tryd.prog.cellsOf 85 = 36 := by kernel_rfl
theorem Tryd.c1 : Tryd.prog.cellsOf 4 = 1 := by kernel_rfl
theorem laid_chg {W : World} (h : laidMetH Tryd.prog [("bulletin/window.changes", Rows.laid_bulletin_window_changes)] W) : HasChg (Kn.of W) := by
  rw [MakeChecks.laidMetH_plain _ _ _ (by kernel_rfl)] at h
  obtain ⟨ps, ⟨g0, t0, cs0, f0, p0, q0, hg0, ht0, hv0, hd0, _, _⟩, _, _⟩ := h
  obtain rfl := Option.some.inj (Tryd.gChg.symm.trans hg0)
  obtain rfl := Option.some.inj (Tryd.tChg.symm.trans ht0)
  obtain ⟨xs, m1, rfl, hx, hl, hn, hel⟩ := DataW.trod_array Tryd.underlying85 hd0
  rw [chg_data] at hx
  simp only [Prod.mk.injEq, DataW.agg.injEq] at hx
  rw [Tryd.c6] at hel
  rw [Tryd.c36] at hl
  refine ⟨KAt.of fun k v hv => ?_⟩
  have hk : k < 36 := by
    have := (List.getElem?_eq_some_iff.1 hv).1
    simpa [chg] using this
  have e1 : v = .bool (may (k / 6) (k % 6)) := by
    have : k / 6 * 6 + k % 6 = k := by omega
    simp only [may, this]
    rw [List.getElem?_map] at hv
    obtain ⟨b, hb, rfl⟩ := Option.map_eq_some_iff.1 hv
    simp [hb]
  have h1 := hel (k / 6) (by omega)
  have hx1 : (xs.map (·.1))[k / 6]? = some (.agg ((List.range 6).map fun j => .lit (.bool (may (k / 6) j)))) := by
    rw [← hx.1, List.getElem?_map, List.getElem?_range (by omega)]; rfl
  rw [List.getElem?_map] at hx1
  obtain ⟨x, hx2, hx3⟩ := Option.map_eq_some_iff.1 hx1
  rw [hx2] at h1
  obtain ⟨ys, m2, rfl, hy, hl2, hn2, hel2⟩ := DataW.trod_array Tryd.underlying84 h1
  have h2 := hel2 (k % 6) (by omega)
  rw [Tryd.c1] at h2
  have hy1 : (ys.map (·.1))[k % 6]? = some (.lit (.bool (may (k / 6) (k % 6)))) := by
    rw [hy] at hx3
    simp only [DataW.agg.injEq] at hx3
    rw [hx3, List.getElem?_map, List.getElem?_range (by omega)]; rfl
  rw [List.getElem?_map] at hy1
  obtain ⟨y, hy2, hy3⟩ := Option.map_eq_some_iff.1 hy1
  rw [hy2] at h2
  obtain ⟨b, hb, hb2⟩ := DataW.trod_bool Tryd.underlying4 h2
  have hbm : b = may (k / 6) (k % 6) := by
    rw [hb2] at hy3
    simpa using hy3
  have hc : cs0.toList[k]? = some (.bool b) := by
    have := congrArg (fun l => l[0]?) hb
    simp only [List.getElem?_take, List.getElem?_drop] at this
    have e2 : k / 6 * 6 + k % 6 = k := by omega
    simpa [show k % 6 < 6 by omega, e2] using this
  have := World.var?_cell hg0 hv0 k
  rw [e1, ← hbm, Nat.zero_add, this, ← Array.getElem?_toList]
  exact hc
end Go.Proofs.YtajbclcpkgenbaaDoor
