/-
  The numbers of cells of the types and their zero values, printed by a program.
-/
import Derived.Test.YtbkgibgomohdjaaDoorProg
import Derived.Test.YtbkgibgomohdjaaDoorEngCall
import Derived.KernelRfl
namespace Go.Proofs.YtbkgibgomohdjaaDoor
open Go.Eng
theorem Tryd.sz3 : szOf Tryd.prog 3 = some 1 := by kernel_rfl
theorem Tryd.zr3 : zeroOf Tryd.prog 3 = some (.int .i64 0) := by kernel_rfl
theorem Tryd.sz5 : szOf Tryd.prog 5 = some 1 := by kernel_rfl
theorem Tryd.zr5 : zeroOf Tryd.prog 5 = some (.int .u8 0) := by kernel_rfl
theorem Tryd.by5 : byOf Tryd.prog 5 = some (.int .u8 0, 1, 1) := by kernel_rfl
theorem Tryd.sz22 : szOf Tryd.prog 22 = some 1 := by kernel_rfl
theorem Tryd.sz29 : szOf Tryd.prog 29 = some 16 := by kernel_rfl
theorem Tryd.zr29 : zeroOf Tryd.prog 29 = some (idV (List.replicate 16 0)) := by kernel_rfl
theorem Tryd.by29 : byOf Tryd.prog 29 = some (idV (List.replicate 16 0), 16, 16) := by kernel_rfl
theorem Tryd.lv29 : leaves Tryd.prog 10 29 = some (List.replicate 16 (lInt .u8)) := by kernel_rfl
theorem Tryd.gd29 : Program.eqGuardType Tryd.prog (Program.depth Tryd.prog) 29 = false := by kernel_rfl
theorem Tryd.sz32 : szOf Tryd.prog 32 = some 17 := by kernel_rfl
theorem Tryd.zr32 : zeroOf Tryd.prog 32 = some (.agg #[.int .i64 0, .int .u8 0, .int .u8 0, .int .u8 0, .int .u8 0, .int .u8 0, .int .u8 0, .int .u8 0, .int .u8 0, .int .u8 0, .int .u8 0, .int .u8 0, .int .u8 0, .int .u8 0, .int .u8 0, .int .u8 0, .int .u8 0]) := by kernel_rfl
theorem Tryd.lv32 : leaves Tryd.prog 10 32 = some ([lInt .i64] ++ List.replicate 16 (lInt .u8)) := by kernel_rfl
theorem Tryd.gd32 : Program.eqGuardType Tryd.prog (Program.depth Tryd.prog) 32 = false := by kernel_rfl
theorem Tryd.ql32 : plOf Tryd.prog 32 = some [(0, 1), (1, 16)] := by kernel_rfl
theorem Tryd.sz34 : szOf Tryd.prog 34 = some 32 := by kernel_rfl
theorem Tryd.zr34 : zeroOf Tryd.prog 34 = some (idV (List.replicate 32 0)) := by kernel_rfl
theorem Tryd.lv34 : leaves Tryd.prog 10 34 = some (List.replicate 32 (lInt .u8)) := by kernel_rfl
theorem Tryd.gd34 : Program.eqGuardType Tryd.prog (Program.depth Tryd.prog) 34 = false := by kernel_rfl
theorem Tryd.sz36 : szOf Tryd.prog 36 = some 17 := by kernel_rfl
theorem Tryd.zr36 : zeroOf Tryd.prog 36 = some (.agg #[.int .i64 0, .int .u8 0, .int .u8 0, .int .u8 0, .int .u8 0, .int .u8 0, .int .u8 0, .int .u8 0, .int .u8 0, .int .u8 0, .int .u8 0, .int .u8 0, .int .u8 0, .int .u8 0, .int .u8 0, .int .u8 0, .int .u8 0]) := by kernel_rfl
theorem Tryd.by36 : byOf Tryd.prog 36 = some (.agg #[.int .i64 0, .int .u8 0, .int .u8 0, .int .u8 0, .int .u8 0, .int .u8 0, .int .u8 0, .int .u8 0, .int .u8 0, .int .u8 0, .int .u8 0, .int .u8 0, .int .u8 0, .int .u8 0, .int .u8 0, .int .u8 0, .int .u8 0], 17, 24) := by kernel_rfl
theorem Tryd.lv36 : leaves Tryd.prog 10 36 = some ([lInt .i64] ++ List.replicate 16 (lInt .u8)) := by kernel_rfl
theorem Tryd.gd36 : Program.eqGuardType Tryd.prog (Program.depth Tryd.prog) 36 = false := by kernel_rfl
theorem Tryd.ql36 : plOf Tryd.prog 36 = some [(0, 1), (1, 16)] := by kernel_rfl
theorem Tryd.sz41 : szOf Tryd.prog 41 = some 7 := by kernel_rfl
theorem Tryd.zr41 : zeroOf Tryd.prog 41 = some (.agg #[.int .u8 0, .int .u8 0, .int .u8 0, .int .u8 0, .int .u8 0, .int .u8 0, .int .u8 0]) := by kernel_rfl
theorem Tryd.by41 : byOf Tryd.prog 41 = some (.agg #[.int .u8 0, .int .u8 0, .int .u8 0, .int .u8 0, .int .u8 0, .int .u8 0, .int .u8 0], 7, 7) := by kernel_rfl
theorem Tryd.ql41 : plOf Tryd.prog 41 = some [(0, 1), (1, 1), (2, 1), (3, 1), (4, 1), (5, 1), (6, 1)] := by kernel_rfl
theorem Tryd.sz45 : szOf Tryd.prog 45 = some 84 := by kernel_rfl
theorem Tryd.zr45 : zeroOf Tryd.prog 45 = some (.agg #[.int .u8 0, .int .u8 0, .int .u8 0, .int .u8 0, .int .u8 0, .int .u8 0, .int .u8 0, .int .u8 0, .int .u8 0, .int .u8 0, .int .u8 0, .int .u8 0, .int .u8 0, .int .u8 0, .int .u8 0, .int .u8 0, .int .u8 0, .int .u8 0, .int .u8 0, .int .u8 0, .int .u8 0, .int .u8 0, .int .u8 0, .int .u8 0, .int .u8 0, .int .u8 0, .int .u8 0, .int .u8 0, .int .u8 0, .int .u8 0, .int .u8 0, .int .u8 0, .int .u8 0, .int .u8 0, .int .u8 0, .int .u8 0, .int .u8 0, .int .u8 0, .int .u8 0, .int .u8 0, .int .u8 0, .int .u8 0, .int .u8 0, .int .u8 0, .int .u8 0, .int .u8 0, .int .u8 0, .int .u8 0, .int .i64 0, .int .i64 0, .int .u8 0, .int .u8 0, .int .u8 0, .int .u8 0, .int .u8 0, .int .u8 0, .int .u8 0, .int .u8 0, .int .u8 0, .int .u8 0, .int .u8 0, .int .u8 0, .int .u8 0, .int .u8 0, .int .u8 0, .int .u8 0, .int .i64 0, .int .i64 0, .int .u8 0, .int .u8 0, .int .u8 0, .int .u8 0, .int .u8 0, .int .u8 0, .int .u8 0, .int .u8 0, .int .u8 0, .int .u8 0, .int .u8 0, .int .u8 0, .int .u8 0, .int .u8 0, .int .u8 0, .int .u8 0]) := by kernel_rfl
theorem Tryd.by45 : byOf Tryd.prog 45 = some (.agg #[.int .u8 0, .int .u8 0, .int .u8 0, .int .u8 0, .int .u8 0, .int .u8 0, .int .u8 0, .int .u8 0, .int .u8 0, .int .u8 0, .int .u8 0, .int .u8 0, .int .u8 0, .int .u8 0, .int .u8 0, .int .u8 0, .int .u8 0, .int .u8 0, .int .u8 0, .int .u8 0, .int .u8 0, .int .u8 0, .int .u8 0, .int .u8 0, .int .u8 0, .int .u8 0, .int .u8 0, .int .u8 0, .int .u8 0, .int .u8 0, .int .u8 0, .int .u8 0, .int .u8 0, .int .u8 0, .int .u8 0, .int .u8 0, .int .u8 0, .int .u8 0, .int .u8 0, .int .u8 0, .int .u8 0, .int .u8 0, .int .u8 0, .int .u8 0, .int .u8 0, .int .u8 0, .int .u8 0, .int .u8 0, .int .i64 0, .int .i64 0, .int .u8 0, .int .u8 0, .int .u8 0, .int .u8 0, .int .u8 0, .int .u8 0, .int .u8 0, .int .u8 0, .int .u8 0, .int .u8 0, .int .u8 0, .int .u8 0, .int .u8 0, .int .u8 0, .int .u8 0, .int .u8 0, .int .i64 0, .int .i64 0, .int .u8 0, .int .u8 0, .int .u8 0, .int .u8 0, .int .u8 0, .int .u8 0, .int .u8 0, .int .u8 0, .int .u8 0, .int .u8 0, .int .u8 0, .int .u8 0, .int .u8 0, .int .u8 0, .int .u8 0, .int .u8 0], 84, 112) := by kernel_rfl
theorem Tryd.ql45 : plOf Tryd.prog 45 = some [(0, 32), (32, 16), (48, 1), (49, 17), (66, 1), (67, 17)] := by kernel_rfl
theorem Tryd.sz49 : szOf Tryd.prog 49 = some 51 := by kernel_rfl
theorem Tryd.zr49 : zeroOf Tryd.prog 49 = some (.agg #[.int .i64 0, .int .i64 0, .int .u8 0, .int .u8 0, .int .u8 0, .int .u8 0, .int .u8 0, .int .u8 0, .int .u8 0, .int .u8 0, .int .u8 0, .int .u8 0, .int .u8 0, .int .u8 0, .int .u8 0, .int .u8 0, .int .u8 0, .int .u8 0, .int .i64 0, .int .u8 0, .int .u8 0, .int .u8 0, .int .u8 0, .int .u8 0, .int .u8 0, .int .u8 0, .int .u8 0, .int .u8 0, .int .u8 0, .int .u8 0, .int .u8 0, .int .u8 0, .int .u8 0, .int .u8 0, .int .u8 0, .int .u8 0, .int .u8 0, .int .u8 0, .int .u8 0, .int .u8 0, .int .u8 0, .int .u8 0, .int .u8 0, .int .u8 0, .int .u8 0, .int .u8 0, .int .u8 0, .int .u8 0, .int .u8 0, .int .u8 0, .int .u8 0]) := by kernel_rfl
theorem Tryd.by49 : byOf Tryd.prog 49 = some (.agg #[.int .i64 0, .int .i64 0, .int .u8 0, .int .u8 0, .int .u8 0, .int .u8 0, .int .u8 0, .int .u8 0, .int .u8 0, .int .u8 0, .int .u8 0, .int .u8 0, .int .u8 0, .int .u8 0, .int .u8 0, .int .u8 0, .int .u8 0, .int .u8 0, .int .i64 0, .int .u8 0, .int .u8 0, .int .u8 0, .int .u8 0, .int .u8 0, .int .u8 0, .int .u8 0, .int .u8 0, .int .u8 0, .int .u8 0, .int .u8 0, .int .u8 0, .int .u8 0, .int .u8 0, .int .u8 0, .int .u8 0, .int .u8 0, .int .u8 0, .int .u8 0, .int .u8 0, .int .u8 0, .int .u8 0, .int .u8 0, .int .u8 0, .int .u8 0, .int .u8 0, .int .u8 0, .int .u8 0, .int .u8 0, .int .u8 0, .int .u8 0, .int .u8 0], 51, 72) := by kernel_rfl
theorem Tryd.ql49 : plOf Tryd.prog 49 = some [(0, 1), (1, 17), (18, 1), (19, 32)] := by kernel_rfl
theorem Tryd.sz59 : szOf Tryd.prog 59 = some 32 := by kernel_rfl
theorem Tryd.zr59 : zeroOf Tryd.prog 59 = some (idV (List.replicate 32 0)) := by kernel_rfl
theorem Tryd.lv59 : leaves Tryd.prog 10 59 = some (List.replicate 32 (lInt .u8)) := by kernel_rfl
theorem Tryd.gd59 : Program.eqGuardType Tryd.prog (Program.depth Tryd.prog) 59 = false := by kernel_rfl
theorem Tryd.sz61 : szOf Tryd.prog 61 = some 51 := by kernel_rfl
theorem Tryd.zr61 : zeroOf Tryd.prog 61 = some (.agg #[.int .i64 0, .int .i64 0, .int .u8 0, .int .u8 0, .int .u8 0, .int .u8 0, .int .u8 0, .int .u8 0, .int .u8 0, .int .u8 0, .int .u8 0, .int .u8 0, .int .u8 0, .int .u8 0, .int .u8 0, .int .u8 0, .int .u8 0, .int .u8 0, .int .i64 0, .int .u8 0, .int .u8 0, .int .u8 0, .int .u8 0, .int .u8 0, .int .u8 0, .int .u8 0, .int .u8 0, .int .u8 0, .int .u8 0, .int .u8 0, .int .u8 0, .int .u8 0, .int .u8 0, .int .u8 0, .int .u8 0, .int .u8 0, .int .u8 0, .int .u8 0, .int .u8 0, .int .u8 0, .int .u8 0, .int .u8 0, .int .u8 0, .int .u8 0, .int .u8 0, .int .u8 0, .int .u8 0, .int .u8 0, .int .u8 0, .int .u8 0, .int .u8 0]) := by kernel_rfl
theorem Tryd.by61 : byOf Tryd.prog 61 = some (.agg #[.int .i64 0, .int .i64 0, .int .u8 0, .int .u8 0, .int .u8 0, .int .u8 0, .int .u8 0, .int .u8 0, .int .u8 0, .int .u8 0, .int .u8 0, .int .u8 0, .int .u8 0, .int .u8 0, .int .u8 0, .int .u8 0, .int .u8 0, .int .u8 0, .int .i64 0, .int .u8 0, .int .u8 0, .int .u8 0, .int .u8 0, .int .u8 0, .int .u8 0, .int .u8 0, .int .u8 0, .int .u8 0, .int .u8 0, .int .u8 0, .int .u8 0, .int .u8 0, .int .u8 0, .int .u8 0, .int .u8 0, .int .u8 0, .int .u8 0, .int .u8 0, .int .u8 0, .int .u8 0, .int .u8 0, .int .u8 0, .int .u8 0, .int .u8 0, .int .u8 0, .int .u8 0, .int .u8 0, .int .u8 0, .int .u8 0, .int .u8 0, .int .u8 0], 51, 72) := by kernel_rfl
theorem Tryd.lv61 : leaves Tryd.prog 10 61 = some (List.replicate 2 (lInt .i64) ++ List.replicate 16 (lInt .u8) ++ [lInt .i64] ++ List.replicate 32 (lInt .u8)) := by kernel_rfl
theorem Tryd.gd61 : Program.eqGuardType Tryd.prog (Program.depth Tryd.prog) 61 = false := by kernel_rfl
theorem Tryd.ql61 : plOf Tryd.prog 61 = some [(0, 1), (1, 17), (18, 1), (19, 32)] := by kernel_rfl
theorem Tryd.zr71 : zeroOf Tryd.prog 71 = some (.agg #[.slice none 0 0, .slice none 0 0, .slice none 0 0]) := by kernel_rfl
theorem Tryd.sz79 : szOf Tryd.prog 79 = some 16 := by kernel_rfl
theorem Tryd.zr79 : zeroOf Tryd.prog 79 = some (idV (List.replicate 16 0)) := by kernel_rfl
theorem Tryd.by79 : byOf Tryd.prog 79 = some (idV (List.replicate 16 0), 16, 16) := by kernel_rfl
theorem Tryd.lv79 : leaves Tryd.prog 10 79 = some (List.replicate 16 (lInt .u8)) := by kernel_rfl
theorem Tryd.gd79 : Program.eqGuardType Tryd.prog (Program.depth Tryd.prog) 79 = false := by kernel_rfl
theorem Tryd.zr87 : zeroOf Tryd.prog 87 = some (.agg #[.string ⟨#[]⟩, .int .u8 0, .int .u8 0, .int .u8 0, .int .u8 0, .int .u8 0, .int .u8 0, .int .u8 0, .int .u8 0, .int .u8 0, .int .u8 0, .int .u8 0, .int .u8 0, .int .u8 0, .int .u8 0, .int .u8 0, .int .u8 0, .int .i64 0, .slice none 0 0, .string ⟨#[]⟩, .slice none 0 0, .int .u8 0, .int .u8 0, .int .u8 0, .int .u8 0, .int .u8 0, .int .u8 0, .int .u8 0, .int .u8 0, .int .u8 0, .int .u8 0, .int .u8 0, .int .u8 0, .int .u8 0, .int .u8 0, .int .u8 0, .int .u8 0, .int .u8 0, .int .u8 0, .int .u8 0, .int .u8 0, .int .u8 0, .int .u8 0, .int .u8 0, .int .u8 0, .int .u8 0, .int .u8 0, .int .u8 0, .int .u8 0, .int .u8 0, .int .u8 0, .int .u8 0, .int .u8 0, .string ⟨#[]⟩, .string ⟨#[]⟩, .int .i64 0, .int .i64 0, .int .u8 0, .int .u8 0, .int .u8 0, .int .u8 0, .int .u8 0, .int .u8 0, .int .u8 0, .int .u8 0, .int .u8 0, .int .u8 0, .int .u8 0, .int .u8 0, .int .u8 0, .int .u8 0, .int .u8 0, .int .u8 0, .int .i64 0, .string ⟨#[]⟩]) := by kernel_rfl
theorem Tryd.ql87 : plOf Tryd.prog 87 = some [(0, 1), (1, 16), (17, 1), (18, 1), (19, 1), (20, 1), (21, 32), (53, 1), (54, 1), (55, 1), (56, 17), (73, 1), (74, 1)] := by kernel_rfl
theorem Tryd.zr89 : zeroOf Tryd.prog 89 = some (.agg #[.int .i64 0, .int .u8 0, .int .u8 0, .int .u8 0, .int .u8 0, .int .u8 0, .int .u8 0, .int .u8 0, .int .u8 0, .int .u8 0, .int .u8 0, .int .u8 0, .int .u8 0, .int .u8 0, .int .u8 0, .int .u8 0, .int .u8 0, .int .u8 0, .int .u8 0, .int .u8 0, .int .u8 0, .int .u8 0, .int .u8 0, .int .u8 0, .int .u8 0, .int .u8 0, .int .u8 0, .int .u8 0, .int .u8 0, .int .u8 0, .int .u8 0, .int .u8 0, .int .u8 0, .string ⟨#[]⟩, .int .i64 0, .bool false, .slice none 0 0, .string ⟨#[]⟩, .int .i64 0, .int .i64 0, .int .u8 0, .int .u8 0, .int .u8 0, .int .u8 0, .int .u8 0, .int .u8 0, .int .u8 0, .int .u8 0, .int .u8 0, .int .u8 0, .int .u8 0, .int .u8 0, .int .u8 0, .int .u8 0, .int .u8 0, .int .u8 0]) := by kernel_rfl
theorem Tryd.ql89 : plOf Tryd.prog 89 = some [(0, 1), (1, 32), (33, 1), (34, 1), (35, 1), (36, 1), (37, 1), (38, 1), (39, 17)] := by kernel_rfl
theorem Tryd.zr101 : zeroOf Tryd.prog 101 = some (.slice none 0 0) := by kernel_rfl
theorem Tryd.sz102 : szOf Tryd.prog 102 = some 1 := by kernel_rfl
theorem Tryd.sz103 : szOf Tryd.prog 103 = some 1 := by kernel_rfl
theorem Tryd.zr105 : zeroOf Tryd.prog 105 = some (.agg #[.map none, .map none]) := by kernel_rfl
theorem Tryd.ql105 : plOf Tryd.prog 105 = some [(0, 1), (1, 1)] := by kernel_rfl
theorem Tryd.sz107 : szOf Tryd.prog 107 = some 17 := by kernel_rfl
theorem Tryd.zr107 : zeroOf Tryd.prog 107 = some (.agg #[.int .u8 0, .int .u8 0, .int .u8 0, .int .u8 0, .int .u8 0, .int .u8 0, .int .u8 0, .int .u8 0, .int .u8 0, .int .u8 0, .int .u8 0, .int .u8 0, .int .u8 0, .int .u8 0, .int .u8 0, .int .u8 0, .int .i64 0]) := by kernel_rfl
theorem Tryd.ql107 : plOf Tryd.prog 107 = some [(0, 16), (16, 1)] := by kernel_rfl
theorem Tryd.sz109 : szOf Tryd.prog 109 = some 84 := by kernel_rfl
theorem Tryd.zr109 : zeroOf Tryd.prog 109 = some (.agg #[.int .u8 0, .int .u8 0, .int .u8 0, .int .u8 0, .int .u8 0, .int .u8 0, .int .u8 0, .int .u8 0, .int .u8 0, .int .u8 0, .int .u8 0, .int .u8 0, .int .u8 0, .int .u8 0, .int .u8 0, .int .u8 0, .int .u8 0, .int .u8 0, .int .u8 0, .int .u8 0, .int .u8 0, .int .u8 0, .int .u8 0, .int .u8 0, .int .u8 0, .int .u8 0, .int .u8 0, .int .u8 0, .int .u8 0, .int .u8 0, .int .u8 0, .int .u8 0, .int .u8 0, .int .u8 0, .int .u8 0, .int .u8 0, .int .u8 0, .int .u8 0, .int .u8 0, .int .u8 0, .int .u8 0, .int .u8 0, .int .u8 0, .int .u8 0, .int .u8 0, .int .u8 0, .int .u8 0, .int .u8 0, .int .i64 0, .int .i64 0, .int .u8 0, .int .u8 0, .int .u8 0, .int .u8 0, .int .u8 0, .int .u8 0, .int .u8 0, .int .u8 0, .int .u8 0, .int .u8 0, .int .u8 0, .int .u8 0, .int .u8 0, .int .u8 0, .int .u8 0, .int .u8 0, .int .i64 0, .int .i64 0, .int .u8 0, .int .u8 0, .int .u8 0, .int .u8 0, .int .u8 0, .int .u8 0, .int .u8 0, .int .u8 0, .int .u8 0, .int .u8 0, .int .u8 0, .int .u8 0, .int .u8 0, .int .u8 0, .int .u8 0, .int .u8 0]) := by kernel_rfl
theorem Tryd.by109 : byOf Tryd.prog 109 = some (.agg #[.int .u8 0, .int .u8 0, .int .u8 0, .int .u8 0, .int .u8 0, .int .u8 0, .int .u8 0, .int .u8 0, .int .u8 0, .int .u8 0, .int .u8 0, .int .u8 0, .int .u8 0, .int .u8 0, .int .u8 0, .int .u8 0, .int .u8 0, .int .u8 0, .int .u8 0, .int .u8 0, .int .u8 0, .int .u8 0, .int .u8 0, .int .u8 0, .int .u8 0, .int .u8 0, .int .u8 0, .int .u8 0, .int .u8 0, .int .u8 0, .int .u8 0, .int .u8 0, .int .u8 0, .int .u8 0, .int .u8 0, .int .u8 0, .int .u8 0, .int .u8 0, .int .u8 0, .int .u8 0, .int .u8 0, .int .u8 0, .int .u8 0, .int .u8 0, .int .u8 0, .int .u8 0, .int .u8 0, .int .u8 0, .int .i64 0, .int .i64 0, .int .u8 0, .int .u8 0, .int .u8 0, .int .u8 0, .int .u8 0, .int .u8 0, .int .u8 0, .int .u8 0, .int .u8 0, .int .u8 0, .int .u8 0, .int .u8 0, .int .u8 0, .int .u8 0, .int .u8 0, .int .u8 0, .int .i64 0, .int .i64 0, .int .u8 0, .int .u8 0, .int .u8 0, .int .u8 0, .int .u8 0, .int .u8 0, .int .u8 0, .int .u8 0, .int .u8 0, .int .u8 0, .int .u8 0, .int .u8 0, .int .u8 0, .int .u8 0, .int .u8 0, .int .u8 0], 84, 112) := by kernel_rfl
theorem Tryd.lv109 : leaves Tryd.prog 10 109 = some (List.replicate 48 (lInt .u8) ++ List.replicate 2 (lInt .i64) ++ List.replicate 16 (lInt .u8) ++ List.replicate 2 (lInt .i64) ++ List.replicate 16 (lInt .u8)) := by kernel_rfl
theorem Tryd.gd109 : Program.eqGuardType Tryd.prog (Program.depth Tryd.prog) 109 = false := by kernel_rfl
theorem Tryd.ql109 : plOf Tryd.prog 109 = some [(0, 32), (32, 17), (49, 17), (66, 1), (67, 17)] := by kernel_rfl
theorem Tryd.sz141 : szOf Tryd.prog 141 = some 16 := by kernel_rfl
theorem Tryd.zr141 : zeroOf Tryd.prog 141 = some (idV (List.replicate 16 0)) := by kernel_rfl
theorem Tryd.sz154 : szOf Tryd.prog 154 = some 1 := by kernel_rfl
theorem Tryd.sz162 : szOf Tryd.prog 162 = some 8 := by kernel_rfl
theorem Tryd.zr162 : zeroOf Tryd.prog 162 = some (.agg #[.int .u32 0, .int .u32 0, .int .u32 0, .int .u32 0, .int .u32 0, .int .u32 0, .int .u32 0, .int .u32 0]) := by kernel_rfl
theorem Tryd.sz163 : szOf Tryd.prog 163 = some 64 := by kernel_rfl
theorem Tryd.zr163 : zeroOf Tryd.prog 163 = some (.agg #[.int .u32 0, .int .u32 0, .int .u32 0, .int .u32 0, .int .u32 0, .int .u32 0, .int .u32 0, .int .u32 0, .int .u32 0, .int .u32 0, .int .u32 0, .int .u32 0, .int .u32 0, .int .u32 0, .int .u32 0, .int .u32 0, .int .u32 0, .int .u32 0, .int .u32 0, .int .u32 0, .int .u32 0, .int .u32 0, .int .u32 0, .int .u32 0, .int .u32 0, .int .u32 0, .int .u32 0, .int .u32 0, .int .u32 0, .int .u32 0, .int .u32 0, .int .u32 0, .int .u32 0, .int .u32 0, .int .u32 0, .int .u32 0, .int .u32 0, .int .u32 0, .int .u32 0, .int .u32 0, .int .u32 0, .int .u32 0, .int .u32 0, .int .u32 0, .int .u32 0, .int .u32 0, .int .u32 0, .int .u32 0, .int .u32 0, .int .u32 0, .int .u32 0, .int .u32 0, .int .u32 0, .int .u32 0, .int .u32 0, .int .u32 0, .int .u32 0, .int .u32 0, .int .u32 0, .int .u32 0, .int .u32 0, .int .u32 0, .int .u32 0, .int .u32 0]) := by kernel_rfl
theorem Tryd.sz168 : szOf Tryd.prog 168 = some 32 := by kernel_rfl
theorem Tryd.zr168 : zeroOf Tryd.prog 168 = some (idV (List.replicate 32 0)) := by kernel_rfl
theorem Tryd.sz170 : szOf Tryd.prog 170 = some 1 := by kernel_rfl
theorem Tryd.zr170 : zeroOf Tryd.prog 170 = some (.int .u64 0) := by kernel_rfl
theorem Tryd.sz187 : szOf Tryd.prog 187 = some 8 := by kernel_rfl
theorem Tryd.zr187 : zeroOf Tryd.prog 187 = some (.agg #[.int .u32 0, .int .u32 0, .int .u32 0, .int .u32 0, .int .u32 0, .int .u32 0, .int .u32 0, .int .u32 0]) := by kernel_rfl
theorem Tryd.ql187 : plOf Tryd.prog 187 = some [(0, 1), (1, 1), (2, 1), (3, 1), (4, 1), (5, 1), (6, 1), (7, 1)] := by kernel_rfl
theorem Tryd.sz188 : szOf Tryd.prog 188 = some 64 := by kernel_rfl
theorem Tryd.sz190 : szOf Tryd.prog 190 = some 73 := by kernel_rfl
theorem Tryd.zr190 : zeroOf Tryd.prog 190 = some (.agg #[.int .u32 0, .int .u32 0, .int .u32 0, .int .u32 0, .int .u32 0, .int .u32 0, .int .u32 0, .int .u32 0, .int .u8 0, .int .u8 0, .int .u8 0, .int .u8 0, .int .u8 0, .int .u8 0, .int .u8 0, .int .u8 0, .int .u8 0, .int .u8 0, .int .u8 0, .int .u8 0, .int .u8 0, .int .u8 0, .int .u8 0, .int .u8 0, .int .u8 0, .int .u8 0, .int .u8 0, .int .u8 0, .int .u8 0, .int .u8 0, .int .u8 0, .int .u8 0, .int .u8 0, .int .u8 0, .int .u8 0, .int .u8 0, .int .u8 0, .int .u8 0, .int .u8 0, .int .u8 0, .int .u8 0, .int .u8 0, .int .u8 0, .int .u8 0, .int .u8 0, .int .u8 0, .int .u8 0, .int .u8 0, .int .u8 0, .int .u8 0, .int .u8 0, .int .u8 0, .int .u8 0, .int .u8 0, .int .u8 0, .int .u8 0, .int .u8 0, .int .u8 0, .int .u8 0, .int .u8 0, .int .u8 0, .int .u8 0, .int .u8 0, .int .u8 0, .int .u8 0, .int .u8 0, .int .u8 0, .int .u8 0, .int .u8 0, .int .u8 0, .int .u8 0, .int .u8 0, .int .i64 0]) := by kernel_rfl
theorem Tryd.sz193 : szOf Tryd.prog 193 = some 16 := by kernel_rfl
theorem Tryd.zr193 : zeroOf Tryd.prog 193 = some (.agg #[.int .u32 0, .int .u32 0, .int .u32 0, .int .u32 0, .int .u32 0, .int .u32 0, .int .u32 0, .int .u32 0, .int .u32 0, .int .u32 0, .int .u32 0, .int .u32 0, .int .u32 0, .int .u32 0, .int .u32 0, .int .u32 0]) := by kernel_rfl
end Go.Proofs.YtbkgibgomohdjaaDoor
