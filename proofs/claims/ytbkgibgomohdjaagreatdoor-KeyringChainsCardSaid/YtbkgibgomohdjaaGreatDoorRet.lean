/-
 Results of which some lie in memory, by the pattern of the places (printed by a program; over any program).
-/
import Derived.Test.YtbkgibgomohdjaaGreatDoorCls
namespace Go.Eng
open Go.RowKit
section
variable {P : Program} {n : Nn} {g : Env} {w : World}
theorem run_loadVarC {t : TypeId} {b off m : Nat} {cs : List Value} {td : TypeDesc} (hu : P.underlying t = some td) (ht : isAggD td = true) (hs : szOf P t = some m) (hc : At w b off cs ∧ cs.length = m) : (loadVar t ⟨b, off, none⟩).run P w = .ok (.agg cs.toArray) w := by
 obtain ⟨hc, rfl⟩ := hc
 exact run_loadVar_at hu ht hs hc
theorem X.resC {fn : Func} {F : Value → World → Prop} {p0 b0 off0 m0 : Nat} {cs0 : List Value} {t0 : TypeId} {td0 : TypeDesc} (hr : fn.results = #[.cell p0 t0]) (h0 : lk g p0 = some (.pointer (some ⟨b0, off0, none⟩))) (hu0 : P.underlying t0 = some td0) (ht0 : isAggD td0 = true) (hs0 : szOf P t0 = some m0) (hc0 : At w b0 off0 cs0 ∧ cs0.length = m0) (h : F (.agg cs0.toArray) w) (hn : n.dfs = [] := by rfl) : X (BodyQ P fn F) .ret n g w := X.leave0 hn fun a f => by
 refine ⟨.agg cs0.toArray, ?_, h⟩
 simp [results, hr, asAddr, run_loadVarC hu0 ht0 hs0 hc0, f.known p0 _ h0]
theorem X.resCT {fn : Func} {F : Value → World → Prop} {p0 b0 off0 m0 : Nat} {cs0 : List Value} {t0 : TypeId} {td0 : TypeDesc} {u1 : Nat} {v1 : Value} (hr : fn.results = #[.cell p0 t0, .tmp u1]) (h0 : lk g p0 = some (.pointer (some ⟨b0, off0, none⟩))) (hu0 : P.underlying t0 = some td0) (ht0 : isAggD td0 = true) (hs0 : szOf P t0 = some m0) (hc0 : At w b0 off0 cs0 ∧ cs0.length = m0) (h1 : lk g u1 = some v1) (h : F (.tuple #[.agg cs0.toArray, v1]) w) (hn : n.dfs = [] := by rfl) : X (BodyQ P fn F) .ret n g w := X.leave0 hn fun a f => by
 refine ⟨.tuple #[.agg cs0.toArray, v1], ?_, h⟩
 simp [results, hr, asAddr, run_loadVarC hu0 ht0 hs0 hc0, f.known p0 _ h0, f.known u1 _ h1]
theorem X.resCTT {fn : Func} {F : Value → World → Prop} {p0 b0 off0 m0 : Nat} {cs0 : List Value} {t0 : TypeId} {td0 : TypeDesc} {u1 : Nat} {v1 : Value} {u2 : Nat} {v2 : Value} (hr : fn.results = #[.cell p0 t0, .tmp u1, .tmp u2]) (h0 : lk g p0 = some (.pointer (some ⟨b0, off0, none⟩))) (hu0 : P.underlying t0 = some td0) (ht0 : isAggD td0 = true) (hs0 : szOf P t0 = some m0) (hc0 : At w b0 off0 cs0 ∧ cs0.length = m0) (h1 : lk g u1 = some v1) (h2 : lk g u2 = some v2) (h : F (.tuple #[.agg cs0.toArray, v1, v2]) w) (hn : n.dfs = [] := by rfl) : X (BodyQ P fn F) .ret n g w := X.leave0 hn fun a f => by
 refine ⟨.tuple #[.agg cs0.toArray, v1, v2], ?_, h⟩
 simp [results, hr, asAddr, run_loadVarC hu0 ht0 hs0 hc0, f.known p0 _ h0, f.known u1 _ h1, f.known u2 _ h2]
end
end Go.Eng
