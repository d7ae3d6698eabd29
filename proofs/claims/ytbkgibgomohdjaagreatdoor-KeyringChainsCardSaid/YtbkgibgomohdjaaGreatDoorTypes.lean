/-
 The numbers of cells of the types and their zero values, printed by a program.
-/
import Derived.Test.YtbkgibgomohdjaaGreatDoorProg
import Derived.Test.YtbkgibgomohdjaaGreatDoorEngCall
import Derived.KernelRfl
namespace Go.Proofs.YtbkgibgomohdjaaGreatDoor
open Go.Eng
theorem Tryz.sz3 : szOf Tryz.prog 3 = some 1 := by kernel_rfl
theorem Tryz.zr3 : zeroOf Tryz.prog 3 = some (.int .i64 0) := by kernel_rfl
theorem Tryz.sz5 : szOf Tryz.prog 5 = some 1 := by kernel_rfl
theorem Tryz.zr5 : zeroOf Tryz.prog 5 = some (.int .u8 0) := by kernel_rfl
theorem Tryz.by5 : byOf Tryz.prog 5 = some (.int .u8 0, 1, 1) := by kernel_rfl
theorem Tryz.sz28 : szOf Tryz.prog 28 = some 16 := by kernel_rfl
theorem Tryz.zr28 : zeroOf Tryz.prog 28 = some (idV (List.replicate 16 0)) := by kernel_rfl
theorem Tryz.by28 : byOf Tryz.prog 28 = some (idV (List.replicate 16 0), 16, 16) := by kernel_rfl
theorem Tryz.lv28 : leaves Tryz.prog 10 28 = some (List.replicate 16 (lInt .u8)) := by kernel_rfl
theorem Tryz.gd28 : Program.eqGuardType Tryz.prog (Program.depth Tryz.prog) 28 = false := by kernel_rfl
theorem Tryz.sz31 : szOf Tryz.prog 31 = some 17 := by kernel_rfl
theorem Tryz.zr31 : zeroOf Tryz.prog 31 = some (.agg #[.int .i64 0, .int .u8 0, .int .u8 0, .int .u8 0, .int .u8 0, .int .u8 0, .int .u8 0, .int .u8 0, .int .u8 0, .int .u8 0, .int .u8 0, .int .u8 0, .int .u8 0, .int .u8 0, .int .u8 0, .int .u8 0, .int .u8 0]) := by kernel_rfl
theorem Tryz.lv31 : leaves Tryz.prog 10 31 = some ([lInt .i64] ++ List.replicate 16 (lInt .u8)) := by kernel_rfl
theorem Tryz.gd31 : Program.eqGuardType Tryz.prog (Program.depth Tryz.prog) 31 = false := by kernel_rfl
theorem Tryz.ql31 : plOf Tryz.prog 31 = some [(0, 1), (1, 16)] := by kernel_rfl
theorem Tryz.sz35 : szOf Tryz.prog 35 = some 17 := by kernel_rfl
theorem Tryz.zr35 : zeroOf Tryz.prog 35 = some (.agg #[.int .i64 0, .int .u8 0, .int .u8 0, .int .u8 0, .int .u8 0, .int .u8 0, .int .u8 0, .int .u8 0, .int .u8 0, .int .u8 0, .int .u8 0, .int .u8 0, .int .u8 0, .int .u8 0, .int .u8 0, .int .u8 0, .int .u8 0]) := by kernel_rfl
theorem Tryz.by35 : byOf Tryz.prog 35 = some (.agg #[.int .i64 0, .int .u8 0, .int .u8 0, .int .u8 0, .int .u8 0, .int .u8 0, .int .u8 0, .int .u8 0, .int .u8 0, .int .u8 0, .int .u8 0, .int .u8 0, .int .u8 0, .int .u8 0, .int .u8 0, .int .u8 0, .int .u8 0], 17, 24) := by kernel_rfl
theorem Tryz.lv35 : leaves Tryz.prog 10 35 = some ([lInt .i64] ++ List.replicate 16 (lInt .u8)) := by kernel_rfl
theorem Tryz.gd35 : Program.eqGuardType Tryz.prog (Program.depth Tryz.prog) 35 = false := by kernel_rfl
theorem Tryz.ql35 : plOf Tryz.prog 35 = some [(0, 1), (1, 16)] := by kernel_rfl
theorem Tryz.sz36 : szOf Tryz.prog 36 = some 32 := by kernel_rfl
theorem Tryz.zr36 : zeroOf Tryz.prog 36 = some (idV (List.replicate 32 0)) := by kernel_rfl
theorem Tryz.by36 : byOf Tryz.prog 36 = some (idV (List.replicate 32 0), 32, 32) := by kernel_rfl
theorem Tryz.lv36 : leaves Tryz.prog 10 36 = some (List.replicate 32 (lInt .u8)) := by kernel_rfl
theorem Tryz.gd36 : Program.eqGuardType Tryz.prog (Program.depth Tryz.prog) 36 = false := by kernel_rfl
theorem Tryz.sz37 : szOf Tryz.prog 37 = some 32 := by kernel_rfl
theorem Tryz.zr37 : zeroOf Tryz.prog 37 = some (idV (List.replicate 32 0)) := by kernel_rfl
theorem Tryz.by37 : byOf Tryz.prog 37 = some (idV (List.replicate 32 0), 32, 32) := by kernel_rfl
theorem Tryz.lv37 : leaves Tryz.prog 10 37 = some (List.replicate 32 (lInt .u8)) := by kernel_rfl
theorem Tryz.gd37 : Program.eqGuardType Tryz.prog (Program.depth Tryz.prog) 37 = false := by kernel_rfl
theorem Tryz.sz39 : szOf Tryz.prog 39 = some 51 := by kernel_rfl
theorem Tryz.zr39 : zeroOf Tryz.prog 39 = some (.agg #[.int .i64 0, .int .i64 0, .int .u8 0, .int .u8 0, .int .u8 0, .int .u8 0, .int .u8 0, .int .u8 0, .int .u8 0, .int .u8 0, .int .u8 0, .int .u8 0, .int .u8 0, .int .u8 0, .int .u8 0, .int .u8 0, .int .u8 0, .int .u8 0, .int .i64 0, .int .u8 0, .int .u8 0, .int .u8 0, .int .u8 0, .int .u8 0, .int .u8 0, .int .u8 0, .int .u8 0, .int .u8 0, .int .u8 0, .int .u8 0, .int .u8 0, .int .u8 0, .int .u8 0, .int .u8 0, .int .u8 0, .int .u8 0, .int .u8 0, .int .u8 0, .int .u8 0, .int .u8 0, .int .u8 0, .int .u8 0, .int .u8 0, .int .u8 0, .int .u8 0, .int .u8 0, .int .u8 0, .int .u8 0, .int .u8 0, .int .u8 0, .int .u8 0]) := by kernel_rfl
theorem Tryz.by39 : byOf Tryz.prog 39 = some (.agg #[.int .i64 0, .int .i64 0, .int .u8 0, .int .u8 0, .int .u8 0, .int .u8 0, .int .u8 0, .int .u8 0, .int .u8 0, .int .u8 0, .int .u8 0, .int .u8 0, .int .u8 0, .int .u8 0, .int .u8 0, .int .u8 0, .int .u8 0, .int .u8 0, .int .i64 0, .int .u8 0, .int .u8 0, .int .u8 0, .int .u8 0, .int .u8 0, .int .u8 0, .int .u8 0, .int .u8 0, .int .u8 0, .int .u8 0, .int .u8 0, .int .u8 0, .int .u8 0, .int .u8 0, .int .u8 0, .int .u8 0, .int .u8 0, .int .u8 0, .int .u8 0, .int .u8 0, .int .u8 0, .int .u8 0, .int .u8 0, .int .u8 0, .int .u8 0, .int .u8 0, .int .u8 0, .int .u8 0, .int .u8 0, .int .u8 0, .int .u8 0, .int .u8 0], 51, 72) := by kernel_rfl
theorem Tryz.lv39 : leaves Tryz.prog 10 39 = some (List.replicate 2 (lInt .i64) ++ List.replicate 16 (lInt .u8) ++ [lInt .i64] ++ List.replicate 32 (lInt .u8)) := by kernel_rfl
theorem Tryz.gd39 : Program.eqGuardType Tryz.prog (Program.depth Tryz.prog) 39 = false := by kernel_rfl
theorem Tryz.ql39 : plOf Tryz.prog 39 = some [(0, 1), (1, 17), (18, 1), (19, 32)] := by kernel_rfl
theorem Tryz.sz54 : szOf Tryz.prog 54 = some 16 := by kernel_rfl
theorem Tryz.zr54 : zeroOf Tryz.prog 54 = some (idV (List.replicate 16 0)) := by kernel_rfl
theorem Tryz.by54 : byOf Tryz.prog 54 = some (idV (List.replicate 16 0), 16, 16) := by kernel_rfl
theorem Tryz.lv54 : leaves Tryz.prog 10 54 = some (List.replicate 16 (lInt .u8)) := by kernel_rfl
theorem Tryz.gd54 : Program.eqGuardType Tryz.prog (Program.depth Tryz.prog) 54 = false := by kernel_rfl
theorem Tryz.zr57 : zeroOf Tryz.prog 57 = some (.agg #[.string ⟨#[]⟩, .int .u8 0, .int .u8 0, .int .u8 0, .int .u8 0, .int .u8 0, .int .u8 0, .int .u8 0, .int .u8 0, .int .u8 0, .int .u8 0, .int .u8 0, .int .u8 0, .int .u8 0, .int .u8 0, .int .u8 0, .int .u8 0, .int .i64 0, .slice none 0 0, .string ⟨#[]⟩, .slice none 0 0, .int .u8 0, .int .u8 0, .int .u8 0, .int .u8 0, .int .u8 0, .int .u8 0, .int .u8 0, .int .u8 0, .int .u8 0, .int .u8 0, .int .u8 0, .int .u8 0, .int .u8 0, .int .u8 0, .int .u8 0, .int .u8 0, .int .u8 0, .int .u8 0, .int .u8 0, .int .u8 0, .int .u8 0, .int .u8 0, .int .u8 0, .int .u8 0, .int .u8 0, .int .u8 0, .int .u8 0, .int .u8 0, .int .u8 0, .int .u8 0, .int .u8 0, .int .u8 0, .string ⟨#[]⟩, .string ⟨#[]⟩, .int .i64 0, .int .i64 0, .int .u8 0, .int .u8 0, .int .u8 0, .int .u8 0, .int .u8 0, .int .u8 0, .int .u8 0, .int .u8 0, .int .u8 0, .int .u8 0, .int .u8 0, .int .u8 0, .int .u8 0, .int .u8 0, .int .u8 0, .int .u8 0, .int .i64 0, .string ⟨#[]⟩]) := by kernel_rfl
theorem Tryz.ql57 : plOf Tryz.prog 57 = some [(0, 1), (1, 16), (17, 1), (18, 1), (19, 1), (20, 1), (21, 32), (53, 1), (54, 1), (55, 1), (56, 17), (73, 1), (74, 1)] := by kernel_rfl
theorem Tryz.zr60 : zeroOf Tryz.prog 60 = some (.agg #[.int .i64 0, .int .u8 0, .int .u8 0, .int .u8 0, .int .u8 0, .int .u8 0, .int .u8 0, .int .u8 0, .int .u8 0, .int .u8 0, .int .u8 0, .int .u8 0, .int .u8 0, .int .u8 0, .int .u8 0, .int .u8 0, .int .u8 0, .int .u8 0, .int .u8 0, .int .u8 0, .int .u8 0, .int .u8 0, .int .u8 0, .int .u8 0, .int .u8 0, .int .u8 0, .int .u8 0, .int .u8 0, .int .u8 0, .int .u8 0, .int .u8 0, .int .u8 0, .int .u8 0, .string ⟨#[]⟩, .int .i64 0, .bool false, .slice none 0 0, .string ⟨#[]⟩, .int .i64 0, .int .i64 0, .int .u8 0, .int .u8 0, .int .u8 0, .int .u8 0, .int .u8 0, .int .u8 0, .int .u8 0, .int .u8 0, .int .u8 0, .int .u8 0, .int .u8 0, .int .u8 0, .int .u8 0, .int .u8 0, .int .u8 0, .int .u8 0]) := by kernel_rfl
theorem Tryz.ql60 : plOf Tryz.prog 60 = some [(0, 1), (1, 32), (33, 1), (34, 1), (35, 1), (36, 1), (37, 1), (38, 1), (39, 17)] := by kernel_rfl
theorem Tryz.sz66 : szOf Tryz.prog 66 = some 7 := by kernel_rfl
theorem Tryz.sz69 : szOf Tryz.prog 69 = some 84 := by kernel_rfl
theorem Tryz.zr69 : zeroOf Tryz.prog 69 = some (.agg #[.int .u8 0, .int .u8 0, .int .u8 0, .int .u8 0, .int .u8 0, .int .u8 0, .int .u8 0, .int .u8 0, .int .u8 0, .int .u8 0, .int .u8 0, .int .u8 0, .int .u8 0, .int .u8 0, .int .u8 0, .int .u8 0, .int .u8 0, .int .u8 0, .int .u8 0, .int .u8 0, .int .u8 0, .int .u8 0, .int .u8 0, .int .u8 0, .int .u8 0, .int .u8 0, .int .u8 0, .int .u8 0, .int .u8 0, .int .u8 0, .int .u8 0, .int .u8 0, .int .u8 0, .int .u8 0, .int .u8 0, .int .u8 0, .int .u8 0, .int .u8 0, .int .u8 0, .int .u8 0, .int .u8 0, .int .u8 0, .int .u8 0, .int .u8 0, .int .u8 0, .int .u8 0, .int .u8 0, .int .u8 0, .int .i64 0, .int .i64 0, .int .u8 0, .int .u8 0, .int .u8 0, .int .u8 0, .int .u8 0, .int .u8 0, .int .u8 0, .int .u8 0, .int .u8 0, .int .u8 0, .int .u8 0, .int .u8 0, .int .u8 0, .int .u8 0, .int .u8 0, .int .u8 0, .int .i64 0, .int .i64 0, .int .u8 0, .int .u8 0, .int .u8 0, .int .u8 0, .int .u8 0, .int .u8 0, .int .u8 0, .int .u8 0, .int .u8 0, .int .u8 0, .int .u8 0, .int .u8 0, .int .u8 0, .int .u8 0, .int .u8 0, .int .u8 0]) := by kernel_rfl
theorem Tryz.by69 : byOf Tryz.prog 69 = some (.agg #[.int .u8 0, .int .u8 0, .int .u8 0, .int .u8 0, .int .u8 0, .int .u8 0, .int .u8 0, .int .u8 0, .int .u8 0, .int .u8 0, .int .u8 0, .int .u8 0, .int .u8 0, .int .u8 0, .int .u8 0, .int .u8 0, .int .u8 0, .int .u8 0, .int .u8 0, .int .u8 0, .int .u8 0, .int .u8 0, .int .u8 0, .int .u8 0, .int .u8 0, .int .u8 0, .int .u8 0, .int .u8 0, .int .u8 0, .int .u8 0, .int .u8 0, .int .u8 0, .int .u8 0, .int .u8 0, .int .u8 0, .int .u8 0, .int .u8 0, .int .u8 0, .int .u8 0, .int .u8 0, .int .u8 0, .int .u8 0, .int .u8 0, .int .u8 0, .int .u8 0, .int .u8 0, .int .u8 0, .int .u8 0, .int .i64 0, .int .i64 0, .int .u8 0, .int .u8 0, .int .u8 0, .int .u8 0, .int .u8 0, .int .u8 0, .int .u8 0, .int .u8 0, .int .u8 0, .int .u8 0, .int .u8 0, .int .u8 0, .int .u8 0, .int .u8 0, .int .u8 0, .int .u8 0, .int .i64 0, .int .i64 0, .int .u8 0, .int .u8 0, .int .u8 0, .int .u8 0, .int .u8 0, .int .u8 0, .int .u8 0, .int .u8 0, .int .u8 0, .int .u8 0, .int .u8 0, .int .u8 0, .int .u8 0, .int .u8 0, .int .u8 0, .int .u8 0], 84, 112) := by kernel_rfl
theorem Tryz.ql69 : plOf Tryz.prog 69 = some [(0, 32), (32, 16), (48, 1), (49, 17), (66, 1), (67, 17)] := by kernel_rfl
theorem Tryz.sz72 : szOf Tryz.prog 72 = some 51 := by kernel_rfl
theorem Tryz.zr72 : zeroOf Tryz.prog 72 = some (.agg #[.int .i64 0, .int .i64 0, .int .u8 0, .int .u8 0, .int .u8 0, .int .u8 0, .int .u8 0, .int .u8 0, .int .u8 0, .int .u8 0, .int .u8 0, .int .u8 0, .int .u8 0, .int .u8 0, .int .u8 0, .int .u8 0, .int .u8 0, .int .u8 0, .int .i64 0, .int .u8 0, .int .u8 0, .int .u8 0, .int .u8 0, .int .u8 0, .int .u8 0, .int .u8 0, .int .u8 0, .int .u8 0, .int .u8 0, .int .u8 0, .int .u8 0, .int .u8 0, .int .u8 0, .int .u8 0, .int .u8 0, .int .u8 0, .int .u8 0, .int .u8 0, .int .u8 0, .int .u8 0, .int .u8 0, .int .u8 0, .int .u8 0, .int .u8 0, .int .u8 0, .int .u8 0, .int .u8 0, .int .u8 0, .int .u8 0, .int .u8 0, .int .u8 0]) := by kernel_rfl
theorem Tryz.by72 : byOf Tryz.prog 72 = some (.agg #[.int .i64 0, .int .i64 0, .int .u8 0, .int .u8 0, .int .u8 0, .int .u8 0, .int .u8 0, .int .u8 0, .int .u8 0, .int .u8 0, .int .u8 0, .int .u8 0, .int .u8 0, .int .u8 0, .int .u8 0, .int .u8 0, .int .u8 0, .int .u8 0, .int .i64 0, .int .u8 0, .int .u8 0, .int .u8 0, .int .u8 0, .int .u8 0, .int .u8 0, .int .u8 0, .int .u8 0, .int .u8 0, .int .u8 0, .int .u8 0, .int .u8 0, .int .u8 0, .int .u8 0, .int .u8 0, .int .u8 0, .int .u8 0, .int .u8 0, .int .u8 0, .int .u8 0, .int .u8 0, .int .u8 0, .int .u8 0, .int .u8 0, .int .u8 0, .int .u8 0, .int .u8 0, .int .u8 0, .int .u8 0, .int .u8 0, .int .u8 0, .int .u8 0], 51, 72) := by kernel_rfl
theorem Tryz.ql72 : plOf Tryz.prog 72 = some [(0, 1), (1, 17), (18, 1), (19, 32)] := by kernel_rfl
theorem Tryz.zr82 : zeroOf Tryz.prog 82 = some (.slice none 0 0) := by kernel_rfl
theorem Tryz.sz83 : szOf Tryz.prog 83 = some 1 := by kernel_rfl
theorem Tryz.sz84 : szOf Tryz.prog 84 = some 1 := by kernel_rfl
theorem Tryz.zr86 : zeroOf Tryz.prog 86 = some (.agg #[.map none, .map none]) := by kernel_rfl
theorem Tryz.ql86 : plOf Tryz.prog 86 = some [(0, 1), (1, 1)] := by kernel_rfl
theorem Tryz.sz88 : szOf Tryz.prog 88 = some 17 := by kernel_rfl
theorem Tryz.zr88 : zeroOf Tryz.prog 88 = some (.agg #[.int .u8 0, .int .u8 0, .int .u8 0, .int .u8 0, .int .u8 0, .int .u8 0, .int .u8 0, .int .u8 0, .int .u8 0, .int .u8 0, .int .u8 0, .int .u8 0, .int .u8 0, .int .u8 0, .int .u8 0, .int .u8 0, .int .i64 0]) := by kernel_rfl
theorem Tryz.ql88 : plOf Tryz.prog 88 = some [(0, 16), (16, 1)] := by kernel_rfl
theorem Tryz.sz90 : szOf Tryz.prog 90 = some 84 := by kernel_rfl
theorem Tryz.zr90 : zeroOf Tryz.prog 90 = some (.agg #[.int .u8 0, .int .u8 0, .int .u8 0, .int .u8 0, .int .u8 0, .int .u8 0, .int .u8 0, .int .u8 0, .int .u8 0, .int .u8 0, .int .u8 0, .int .u8 0, .int .u8 0, .int .u8 0, .int .u8 0, .int .u8 0, .int .u8 0, .int .u8 0, .int .u8 0, .int .u8 0, .int .u8 0, .int .u8 0, .int .u8 0, .int .u8 0, .int .u8 0, .int .u8 0, .int .u8 0, .int .u8 0, .int .u8 0, .int .u8 0, .int .u8 0, .int .u8 0, .int .u8 0, .int .u8 0, .int .u8 0, .int .u8 0, .int .u8 0, .int .u8 0, .int .u8 0, .int .u8 0, .int .u8 0, .int .u8 0, .int .u8 0, .int .u8 0, .int .u8 0, .int .u8 0, .int .u8 0, .int .u8 0, .int .i64 0, .int .i64 0, .int .u8 0, .int .u8 0, .int .u8 0, .int .u8 0, .int .u8 0, .int .u8 0, .int .u8 0, .int .u8 0, .int .u8 0, .int .u8 0, .int .u8 0, .int .u8 0, .int .u8 0, .int .u8 0, .int .u8 0, .int .u8 0, .int .i64 0, .int .i64 0, .int .u8 0, .int .u8 0, .int .u8 0, .int .u8 0, .int .u8 0, .int .u8 0, .int .u8 0, .int .u8 0, .int .u8 0, .int .u8 0, .int .u8 0, .int .u8 0, .int .u8 0, .int .u8 0, .int .u8 0, .int .u8 0]) := by kernel_rfl
theorem Tryz.by90 : byOf Tryz.prog 90 = some (.agg #[.int .u8 0, .int .u8 0, .int .u8 0, .int .u8 0, .int .u8 0, .int .u8 0, .int .u8 0, .int .u8 0, .int .u8 0, .int .u8 0, .int .u8 0, .int .u8 0, .int .u8 0, .int .u8 0, .int .u8 0, .int .u8 0, .int .u8 0, .int .u8 0, .int .u8 0, .int .u8 0, .int .u8 0, .int .u8 0, .int .u8 0, .int .u8 0, .int .u8 0, .int .u8 0, .int .u8 0, .int .u8 0, .int .u8 0, .int .u8 0, .int .u8 0, .int .u8 0, .int .u8 0, .int .u8 0, .int .u8 0, .int .u8 0, .int .u8 0, .int .u8 0, .int .u8 0, .int .u8 0, .int .u8 0, .int .u8 0, .int .u8 0, .int .u8 0, .int .u8 0, .int .u8 0, .int .u8 0, .int .u8 0, .int .i64 0, .int .i64 0, .int .u8 0, .int .u8 0, .int .u8 0, .int .u8 0, .int .u8 0, .int .u8 0, .int .u8 0, .int .u8 0, .int .u8 0, .int .u8 0, .int .u8 0, .int .u8 0, .int .u8 0, .int .u8 0, .int .u8 0, .int .u8 0, .int .i64 0, .int .i64 0, .int .u8 0, .int .u8 0, .int .u8 0, .int .u8 0, .int .u8 0, .int .u8 0, .int .u8 0, .int .u8 0, .int .u8 0, .int .u8 0, .int .u8 0, .int .u8 0, .int .u8 0, .int .u8 0, .int .u8 0, .int .u8 0], 84, 112) := by kernel_rfl
theorem Tryz.ql90 : plOf Tryz.prog 90 = some [(0, 32), (32, 17), (49, 17), (66, 1), (67, 17)] := by kernel_rfl
theorem Tryz.sz133 : szOf Tryz.prog 133 = some 1 := by kernel_rfl
theorem Tryz.sz137 : szOf Tryz.prog 137 = some 16 := by kernel_rfl
theorem Tryz.zr137 : zeroOf Tryz.prog 137 = some (idV (List.replicate 16 0)) := by kernel_rfl
theorem Tryz.sz140 : szOf Tryz.prog 140 = some 8 := by kernel_rfl
theorem Tryz.zr140 : zeroOf Tryz.prog 140 = some (.agg #[.int .u32 0, .int .u32 0, .int .u32 0, .int .u32 0, .int .u32 0, .int .u32 0, .int .u32 0, .int .u32 0]) := by kernel_rfl
theorem Tryz.sz141 : szOf Tryz.prog 141 = some 64 := by kernel_rfl
theorem Tryz.zr141 : zeroOf Tryz.prog 141 = some (.agg #[.int .u32 0, .int .u32 0, .int .u32 0, .int .u32 0, .int .u32 0, .int .u32 0, .int .u32 0, .int .u32 0, .int .u32 0, .int .u32 0, .int .u32 0, .int .u32 0, .int .u32 0, .int .u32 0, .int .u32 0, .int .u32 0, .int .u32 0, .int .u32 0, .int .u32 0, .int .u32 0, .int .u32 0, .int .u32 0, .int .u32 0, .int .u32 0, .int .u32 0, .int .u32 0, .int .u32 0, .int .u32 0, .int .u32 0, .int .u32 0, .int .u32 0, .int .u32 0, .int .u32 0, .int .u32 0, .int .u32 0, .int .u32 0, .int .u32 0, .int .u32 0, .int .u32 0, .int .u32 0, .int .u32 0, .int .u32 0, .int .u32 0, .int .u32 0, .int .u32 0, .int .u32 0, .int .u32 0, .int .u32 0, .int .u32 0, .int .u32 0, .int .u32 0, .int .u32 0, .int .u32 0, .int .u32 0, .int .u32 0, .int .u32 0, .int .u32 0, .int .u32 0, .int .u32 0, .int .u32 0, .int .u32 0, .int .u32 0, .int .u32 0, .int .u32 0]) := by kernel_rfl
theorem Tryz.sz151 : szOf Tryz.prog 151 = some 1 := by kernel_rfl
theorem Tryz.zr151 : zeroOf Tryz.prog 151 = some (.int .u64 0) := by kernel_rfl
theorem Tryz.sz157 : szOf Tryz.prog 157 = some 32 := by kernel_rfl
theorem Tryz.zr157 : zeroOf Tryz.prog 157 = some (idV (List.replicate 32 0)) := by kernel_rfl
theorem Tryz.sz170 : szOf Tryz.prog 170 = some 8 := by kernel_rfl
theorem Tryz.zr170 : zeroOf Tryz.prog 170 = some (.agg #[.int .u32 0, .int .u32 0, .int .u32 0, .int .u32 0, .int .u32 0, .int .u32 0, .int .u32 0, .int .u32 0]) := by kernel_rfl
theorem Tryz.ql170 : plOf Tryz.prog 170 = some [(0, 1), (1, 1), (2, 1), (3, 1), (4, 1), (5, 1), (6, 1), (7, 1)] := by kernel_rfl
theorem Tryz.sz171 : szOf Tryz.prog 171 = some 64 := by kernel_rfl
theorem Tryz.sz173 : szOf Tryz.prog 173 = some 73 := by kernel_rfl
theorem Tryz.zr173 : zeroOf Tryz.prog 173 = some (.agg #[.int .u32 0, .int .u32 0, .int .u32 0, .int .u32 0, .int .u32 0, .int .u32 0, .int .u32 0, .int .u32 0, .int .u8 0, .int .u8 0, .int .u8 0, .int .u8 0, .int .u8 0, .int .u8 0, .int .u8 0, .int .u8 0, .int .u8 0, .int .u8 0, .int .u8 0, .int .u8 0, .int .u8 0, .int .u8 0, .int .u8 0, .int .u8 0, .int .u8 0, .int .u8 0, .int .u8 0, .int .u8 0, .int .u8 0, .int .u8 0, .int .u8 0, .int .u8 0, .int .u8 0, .int .u8 0, .int .u8 0, .int .u8 0, .int .u8 0, .int .u8 0, .int .u8 0, .int .u8 0, .int .u8 0, .int .u8 0, .int .u8 0, .int .u8 0, .int .u8 0, .int .u8 0, .int .u8 0, .int .u8 0, .int .u8 0, .int .u8 0, .int .u8 0, .int .u8 0, .int .u8 0, .int .u8 0, .int .u8 0, .int .u8 0, .int .u8 0, .int .u8 0, .int .u8 0, .int .u8 0, .int .u8 0, .int .u8 0, .int .u8 0, .int .u8 0, .int .u8 0, .int .u8 0, .int .u8 0, .int .u8 0, .int .u8 0, .int .u8 0, .int .u8 0, .int .u8 0, .int .i64 0]) := by kernel_rfl
theorem Tryz.sz176 : szOf Tryz.prog 176 = some 16 := by kernel_rfl
theorem Tryz.zr176 : zeroOf Tryz.prog 176 = some (.agg #[.int .u32 0, .int .u32 0, .int .u32 0, .int .u32 0, .int .u32 0, .int .u32 0, .int .u32 0, .int .u32 0, .int .u32 0, .int .u32 0, .int .u32 0, .int .u32 0, .int .u32 0, .int .u32 0, .int .u32 0, .int .u32 0]) := by kernel_rfl
end Go.Proofs.YtbkgibgomohdjaaGreatDoor
