/-
  The numbers of cells of the types and their zero values, printed by a program.
-/
import Derived.Test.YtmjmichghfepkaaProg
import Derived.Test.YtmjmichghfepkaaEngCall
import Derived.KernelRfl
namespace Go.Proofs.Ytmjmichghfepkaa
open Go.Eng
theorem Try.sz3 : szOf Try.prog 3 = some 1 := by kernel_rfl
theorem Try.zr3 : zeroOf Try.prog 3 = some (.int .i64 0) := by kernel_rfl
theorem Try.by3 : byOf Try.prog 3 = some (.int .i64 0, 1, 8) := by kernel_rfl
theorem Try.sz4 : szOf Try.prog 4 = some 1 := by kernel_rfl
theorem Try.zr4 : zeroOf Try.prog 4 = some (.bool false) := by kernel_rfl
theorem Try.sz5 : szOf Try.prog 5 = some 1 := by kernel_rfl
theorem Try.sz9 : szOf Try.prog 9 = some 1 := by kernel_rfl
theorem Try.zr9 : zeroOf Try.prog 9 = some (.string ⟨#[]⟩) := by kernel_rfl
theorem Try.by9 : byOf Try.prog 9 = some (.string ⟨#[]⟩, 1, 16) := by kernel_rfl
theorem Try.sz23 : szOf Try.prog 23 = some 32 := by kernel_rfl
theorem Try.zr23 : zeroOf Try.prog 23 = some (idV (List.replicate 32 0)) := by kernel_rfl
theorem Try.by23 : byOf Try.prog 23 = some (idV (List.replicate 32 0), 32, 32) := by kernel_rfl
theorem Try.lv23 : leaves Try.prog 10 23 = some (List.replicate 32 (lInt .u8)) := by kernel_rfl
theorem Try.gd23 : Program.eqGuardType Try.prog (Program.depth Try.prog) 23 = false := by kernel_rfl
theorem Try.sz24 : szOf Try.prog 24 = some 16 := by kernel_rfl
theorem Try.lv24 : leaves Try.prog 10 24 = some (List.replicate 16 (lInt .u8)) := by kernel_rfl
theorem Try.gd24 : Program.eqGuardType Try.prog (Program.depth Try.prog) 24 = false := by kernel_rfl
theorem Try.sz26 : szOf Try.prog 26 = some 82 := by kernel_rfl
theorem Try.zr26 : zeroOf Try.prog 26 = some (.agg #[.int .u8 0, .int .u8 0, .int .u8 0, .int .u8 0, .int .u8 0, .int .u8 0, .int .u8 0, .int .u8 0, .int .u8 0, .int .u8 0, .int .u8 0, .int .u8 0, .int .u8 0, .int .u8 0, .int .u8 0, .int .u8 0, .int .u8 0, .int .u8 0, .int .u8 0, .int .u8 0, .int .u8 0, .int .u8 0, .int .u8 0, .int .u8 0, .int .u8 0, .int .u8 0, .int .u8 0, .int .u8 0, .int .u8 0, .int .u8 0, .int .u8 0, .int .u8 0, .int .u8 0, .int .u8 0, .int .u8 0, .int .u8 0, .int .u8 0, .int .u8 0, .int .u8 0, .int .u8 0, .int .u8 0, .int .u8 0, .int .u8 0, .int .u8 0, .int .u8 0, .int .u8 0, .int .u8 0, .int .u8 0, .int .i64 0, .int .u8 0, .int .u8 0, .int .u8 0, .int .u8 0, .int .u8 0, .int .u8 0, .int .u8 0, .int .u8 0, .int .u8 0, .int .u8 0, .int .u8 0, .int .u8 0, .int .u8 0, .int .u8 0, .int .u8 0, .int .u8 0, .int .u8 0, .int .u8 0, .int .u8 0, .int .u8 0, .int .u8 0, .int .u8 0, .int .u8 0, .int .u8 0, .int .u8 0, .int .u8 0, .int .u8 0, .int .u8 0, .int .u8 0, .int .u8 0, .int .u8 0, .int .u8 0, .int .u8 0]) := by kernel_rfl
theorem Try.by26 : byOf Try.prog 26 = some (.agg #[.int .u8 0, .int .u8 0, .int .u8 0, .int .u8 0, .int .u8 0, .int .u8 0, .int .u8 0, .int .u8 0, .int .u8 0, .int .u8 0, .int .u8 0, .int .u8 0, .int .u8 0, .int .u8 0, .int .u8 0, .int .u8 0, .int .u8 0, .int .u8 0, .int .u8 0, .int .u8 0, .int .u8 0, .int .u8 0, .int .u8 0, .int .u8 0, .int .u8 0, .int .u8 0, .int .u8 0, .int .u8 0, .int .u8 0, .int .u8 0, .int .u8 0, .int .u8 0, .int .u8 0, .int .u8 0, .int .u8 0, .int .u8 0, .int .u8 0, .int .u8 0, .int .u8 0, .int .u8 0, .int .u8 0, .int .u8 0, .int .u8 0, .int .u8 0, .int .u8 0, .int .u8 0, .int .u8 0, .int .u8 0, .int .i64 0, .int .u8 0, .int .u8 0, .int .u8 0, .int .u8 0, .int .u8 0, .int .u8 0, .int .u8 0, .int .u8 0, .int .u8 0, .int .u8 0, .int .u8 0, .int .u8 0, .int .u8 0, .int .u8 0, .int .u8 0, .int .u8 0, .int .u8 0, .int .u8 0, .int .u8 0, .int .u8 0, .int .u8 0, .int .u8 0, .int .u8 0, .int .u8 0, .int .u8 0, .int .u8 0, .int .u8 0, .int .u8 0, .int .u8 0, .int .u8 0, .int .u8 0, .int .u8 0, .int .u8 0], 82, 96) := by kernel_rfl
theorem Try.lv26 : leaves Try.prog 10 26 = some (List.replicate 48 (lInt .u8) ++ [lInt .i64] ++ List.replicate 33 (lInt .u8)) := by kernel_rfl
theorem Try.gd26 : Program.eqGuardType Try.prog (Program.depth Try.prog) 26 = false := by kernel_rfl
theorem Try.sz27 : szOf Try.prog 27 = some 1 := by kernel_rfl
theorem Try.zr27 : zeroOf Try.prog 27 = some (.slice none 0 0) := by kernel_rfl
theorem Try.sz37 : szOf Try.prog 37 = some 32 := by kernel_rfl
theorem Try.zr37 : zeroOf Try.prog 37 = some (idV (List.replicate 32 0)) := by kernel_rfl
theorem Try.by37 : byOf Try.prog 37 = some (idV (List.replicate 32 0), 32, 32) := by kernel_rfl
theorem Try.lv37 : leaves Try.prog 10 37 = some (List.replicate 32 (lInt .u8)) := by kernel_rfl
theorem Try.gd37 : Program.eqGuardType Try.prog (Program.depth Try.prog) 37 = false := by kernel_rfl
theorem Try.sz38 : szOf Try.prog 38 = some 16 := by kernel_rfl
theorem Try.lv38 : leaves Try.prog 10 38 = some (List.replicate 16 (lInt .u8)) := by kernel_rfl
theorem Try.gd38 : Program.eqGuardType Try.prog (Program.depth Try.prog) 38 = false := by kernel_rfl
theorem Try.sz39 : szOf Try.prog 39 = some 1 := by kernel_rfl
theorem Try.sz40 : szOf Try.prog 40 = some 1 := by kernel_rfl
theorem Try.sz42 : szOf Try.prog 42 = some 83 := by kernel_rfl
theorem Try.zr42 : zeroOf Try.prog 42 = some (.agg #[.int .u8 0, .int .u8 0, .int .u8 0, .int .u8 0, .int .u8 0, .int .u8 0, .int .u8 0, .int .u8 0, .int .u8 0, .int .u8 0, .int .u8 0, .int .u8 0, .int .u8 0, .int .u8 0, .int .u8 0, .int .u8 0, .int .u8 0, .int .u8 0, .int .u8 0, .int .u8 0, .int .u8 0, .int .u8 0, .int .u8 0, .int .u8 0, .int .u8 0, .int .u8 0, .int .u8 0, .int .u8 0, .int .u8 0, .int .u8 0, .int .u8 0, .int .u8 0, .int .u8 0, .int .u8 0, .int .u8 0, .int .u8 0, .int .u8 0, .int .u8 0, .int .u8 0, .int .u8 0, .int .u8 0, .int .u8 0, .int .u8 0, .int .u8 0, .int .u8 0, .int .u8 0, .int .u8 0, .int .u8 0, .int .i64 0, .slice none 0 0, .slice none 0 0, .int .u8 0, .int .u8 0, .int .u8 0, .int .u8 0, .int .u8 0, .int .u8 0, .int .u8 0, .int .u8 0, .int .u8 0, .int .u8 0, .int .u8 0, .int .u8 0, .int .u8 0, .int .u8 0, .int .u8 0, .int .u8 0, .int .u8 0, .int .u8 0, .int .u8 0, .int .u8 0, .int .u8 0, .int .u8 0, .int .u8 0, .int .u8 0, .int .u8 0, .int .u8 0, .int .u8 0, .int .u8 0, .int .u8 0, .int .u8 0, .int .u8 0, .int .u8 0]) := by kernel_rfl
theorem Try.by42 : byOf Try.prog 42 = some (.agg #[.int .u8 0, .int .u8 0, .int .u8 0, .int .u8 0, .int .u8 0, .int .u8 0, .int .u8 0, .int .u8 0, .int .u8 0, .int .u8 0, .int .u8 0, .int .u8 0, .int .u8 0, .int .u8 0, .int .u8 0, .int .u8 0, .int .u8 0, .int .u8 0, .int .u8 0, .int .u8 0, .int .u8 0, .int .u8 0, .int .u8 0, .int .u8 0, .int .u8 0, .int .u8 0, .int .u8 0, .int .u8 0, .int .u8 0, .int .u8 0, .int .u8 0, .int .u8 0, .int .u8 0, .int .u8 0, .int .u8 0, .int .u8 0, .int .u8 0, .int .u8 0, .int .u8 0, .int .u8 0, .int .u8 0, .int .u8 0, .int .u8 0, .int .u8 0, .int .u8 0, .int .u8 0, .int .u8 0, .int .u8 0, .int .i64 0, .slice none 0 0, .slice none 0 0, .int .u8 0, .int .u8 0, .int .u8 0, .int .u8 0, .int .u8 0, .int .u8 0, .int .u8 0, .int .u8 0, .int .u8 0, .int .u8 0, .int .u8 0, .int .u8 0, .int .u8 0, .int .u8 0, .int .u8 0, .int .u8 0, .int .u8 0, .int .u8 0, .int .u8 0, .int .u8 0, .int .u8 0, .int .u8 0, .int .u8 0, .int .u8 0, .int .u8 0, .int .u8 0, .int .u8 0, .int .u8 0, .int .u8 0, .int .u8 0, .int .u8 0, .int .u8 0], 83, 136) := by kernel_rfl
theorem Try.ql42 : plOf Try.prog 42 = some [(0, 32), (32, 16), (48, 1), (49, 1), (50, 1), (51, 32)] := by kernel_rfl
theorem Try.sz82 : szOf Try.prog 82 = some 1 := by kernel_rfl
theorem Try.zr84 : zeroOf Try.prog 84 = some (.agg #[.map none]) := by kernel_rfl
theorem Try.ql84 : plOf Try.prog 84 = some [(0, 1)] := by kernel_rfl
theorem Try.sz86 : szOf Try.prog 86 = some 83 := by kernel_rfl
theorem Try.sz144 : szOf Try.prog 144 = some 1 := by kernel_rfl
theorem Try.zr144 : zeroOf Try.prog 144 = some (.int .u64 0) := by kernel_rfl
end Go.Proofs.Ytmjmichghfepkaa
