/-
  The numbers of cells of the types and their zero values, printed by a program.
-/
import Derived.Test.YtajbclcpkgenbaaDoorProg
import Derived.Test.YtajbclcpkgenbaaDoorEngCall
import Derived.KernelRfl
namespace Go.Proofs.YtajbclcpkgenbaaDoor
open Go.Eng
theorem Tryd.sz1 : szOf Tryd.prog 1 = some 1 := by kernel_rfl
theorem Tryd.zr1 : zeroOf Tryd.prog 1 = some (.nilFunc) := by kernel_rfl
theorem Tryd.by1 : byOf Tryd.prog 1 = some (.nilFunc, 1, 8) := by kernel_rfl
theorem Tryd.sz2 : szOf Tryd.prog 2 = some 1 := by kernel_rfl
theorem Tryd.zr2 : zeroOf Tryd.prog 2 = some (.int .i64 0) := by kernel_rfl
theorem Tryd.by2 : byOf Tryd.prog 2 = some (.int .i64 0, 1, 8) := by kernel_rfl
theorem Tryd.sz3 : szOf Tryd.prog 3 = some 1 := by kernel_rfl
theorem Tryd.zr3 : zeroOf Tryd.prog 3 = some (.int .i64 0) := by kernel_rfl
theorem Tryd.by3 : byOf Tryd.prog 3 = some (.int .i64 0, 1, 8) := by kernel_rfl
theorem Tryd.sz4 : szOf Tryd.prog 4 = some 1 := by kernel_rfl
theorem Tryd.zr4 : zeroOf Tryd.prog 4 = some (.bool false) := by kernel_rfl
theorem Tryd.by4 : byOf Tryd.prog 4 = some (.bool false, 1, 1) := by kernel_rfl
theorem Tryd.sz5 : szOf Tryd.prog 5 = some 1 := by kernel_rfl
theorem Tryd.zr5 : zeroOf Tryd.prog 5 = some (.int .u8 0) := by kernel_rfl
theorem Tryd.by5 : byOf Tryd.prog 5 = some (.int .u8 0, 1, 1) := by kernel_rfl
theorem Tryd.sz6 : szOf Tryd.prog 6 = some 1 := by kernel_rfl
theorem Tryd.zr6 : zeroOf Tryd.prog 6 = some (.int .u8 0) := by kernel_rfl
theorem Tryd.by6 : byOf Tryd.prog 6 = some (.int .u8 0, 1, 1) := by kernel_rfl
theorem Tryd.sz7 : szOf Tryd.prog 7 = some 4 := by kernel_rfl
theorem Tryd.zr7 : zeroOf Tryd.prog 7 = some (.agg #[.int .i64 0, .int .i64 0, .bool false, .int .u8 0]) := by kernel_rfl
theorem Tryd.by7 : byOf Tryd.prog 7 = some (.agg #[.int .i64 0, .int .i64 0, .bool false, .int .u8 0], 4, 24) := by kernel_rfl
theorem Tryd.ql7 : plOf Tryd.prog 7 = some [(0, 1), (1, 1), (2, 1), (3, 1)] := by kernel_rfl
theorem Tryd.pl7 : (match Program.underlying Tryd.prog 7 with | some (.struct fs) => placesOf Tryd.prog fs.toList | _ => none) = some [(0, 1), (1, 1), (2, 1), (3, 1)] := by kernel_rfl
theorem Tryd.sz8 : szOf Tryd.prog 8 = some 4 := by kernel_rfl
theorem Tryd.zr8 : zeroOf Tryd.prog 8 = some (.agg #[.int .i64 0, .int .i64 0, .bool false, .int .u8 0]) := by kernel_rfl
theorem Tryd.by8 : byOf Tryd.prog 8 = some (.agg #[.int .i64 0, .int .i64 0, .bool false, .int .u8 0], 4, 24) := by kernel_rfl
theorem Tryd.ql8 : plOf Tryd.prog 8 = some [(0, 1), (1, 1), (2, 1), (3, 1)] := by kernel_rfl
theorem Tryd.pl8 : (match Program.underlying Tryd.prog 8 with | some (.struct fs) => placesOf Tryd.prog fs.toList | _ => none) = some [(0, 1), (1, 1), (2, 1), (3, 1)] := by kernel_rfl
theorem Tryd.sz9 : szOf Tryd.prog 9 = some 1 := by kernel_rfl
theorem Tryd.zr9 : zeroOf Tryd.prog 9 = some (.string ⟨#[]⟩) := by kernel_rfl
theorem Tryd.by9 : byOf Tryd.prog 9 = some (.string ⟨#[]⟩, 1, 16) := by kernel_rfl
theorem Tryd.sz10 : szOf Tryd.prog 10 = some 1 := by kernel_rfl
theorem Tryd.zr10 : zeroOf Tryd.prog 10 = some (.string ⟨#[]⟩) := by kernel_rfl
theorem Tryd.by10 : byOf Tryd.prog 10 = some (.string ⟨#[]⟩, 1, 16) := by kernel_rfl
theorem Tryd.sz11 : szOf Tryd.prog 11 = some 1 := by kernel_rfl
theorem Tryd.zr11 : zeroOf Tryd.prog 11 = some (.string ⟨#[]⟩) := by kernel_rfl
theorem Tryd.by11 : byOf Tryd.prog 11 = some (.string ⟨#[]⟩, 1, 16) := by kernel_rfl
theorem Tryd.sz12 : szOf Tryd.prog 12 = some 1 := by kernel_rfl
theorem Tryd.zr12 : zeroOf Tryd.prog 12 = some (.int .u64 0) := by kernel_rfl
theorem Tryd.by12 : byOf Tryd.prog 12 = some (.int .u64 0, 1, 8) := by kernel_rfl
theorem Tryd.sz13 : szOf Tryd.prog 13 = some 2 := by kernel_rfl
theorem Tryd.zr13 : zeroOf Tryd.prog 13 = some (.agg #[.string ⟨#[]⟩, .int .u64 0]) := by kernel_rfl
theorem Tryd.by13 : byOf Tryd.prog 13 = some (.agg #[.string ⟨#[]⟩, .int .u64 0], 2, 24) := by kernel_rfl
theorem Tryd.ql13 : plOf Tryd.prog 13 = some [(0, 1), (1, 1)] := by kernel_rfl
theorem Tryd.pl13 : (match Program.underlying Tryd.prog 13 with | some (.struct fs) => placesOf Tryd.prog fs.toList | _ => none) = some [(0, 1), (1, 1)] := by kernel_rfl
theorem Tryd.sz14 : szOf Tryd.prog 14 = some 2 := by kernel_rfl
theorem Tryd.zr14 : zeroOf Tryd.prog 14 = some (.agg #[.string ⟨#[]⟩, .int .u64 0]) := by kernel_rfl
theorem Tryd.by14 : byOf Tryd.prog 14 = some (.agg #[.string ⟨#[]⟩, .int .u64 0], 2, 24) := by kernel_rfl
theorem Tryd.ql14 : plOf Tryd.prog 14 = some [(0, 1), (1, 1)] := by kernel_rfl
theorem Tryd.pl14 : (match Program.underlying Tryd.prog 14 with | some (.struct fs) => placesOf Tryd.prog fs.toList | _ => none) = some [(0, 1), (1, 1)] := by kernel_rfl
theorem Tryd.sz15 : szOf Tryd.prog 15 = some 1 := by kernel_rfl
theorem Tryd.zr15 : zeroOf Tryd.prog 15 = some (.pointer none) := by kernel_rfl
theorem Tryd.by15 : byOf Tryd.prog 15 = some (.pointer none, 1, 8) := by kernel_rfl
theorem Tryd.sz16 : szOf Tryd.prog 16 = some 1 := by kernel_rfl
theorem Tryd.zr16 : zeroOf Tryd.prog 16 = some (.pointer none) := by kernel_rfl
theorem Tryd.by16 : byOf Tryd.prog 16 = some (.pointer none, 1, 8) := by kernel_rfl
theorem Tryd.sz17 : szOf Tryd.prog 17 = some 1 := by kernel_rfl
theorem Tryd.zr17 : zeroOf Tryd.prog 17 = some (.pointer none) := by kernel_rfl
theorem Tryd.by17 : byOf Tryd.prog 17 = some (.pointer none, 1, 8) := by kernel_rfl
theorem Tryd.sz18 : szOf Tryd.prog 18 = some 1 := by kernel_rfl
theorem Tryd.zr18 : zeroOf Tryd.prog 18 = some (.agg #[.pointer none]) := by kernel_rfl
theorem Tryd.by18 : byOf Tryd.prog 18 = some (.agg #[.pointer none], 1, 8) := by kernel_rfl
theorem Tryd.ql18 : plOf Tryd.prog 18 = some [(0, 1)] := by kernel_rfl
theorem Tryd.pl18 : (match Program.underlying Tryd.prog 18 with | some (.struct fs) => placesOf Tryd.prog fs.toList | _ => none) = some [(0, 1)] := by kernel_rfl
theorem Tryd.sz19 : szOf Tryd.prog 19 = some 1 := by kernel_rfl
theorem Tryd.zr19 : zeroOf Tryd.prog 19 = some (.agg #[.pointer none]) := by kernel_rfl
theorem Tryd.by19 : byOf Tryd.prog 19 = some (.agg #[.pointer none], 1, 8) := by kernel_rfl
theorem Tryd.ql19 : plOf Tryd.prog 19 = some [(0, 1)] := by kernel_rfl
theorem Tryd.pl19 : (match Program.underlying Tryd.prog 19 with | some (.struct fs) => placesOf Tryd.prog fs.toList | _ => none) = some [(0, 1)] := by kernel_rfl
theorem Tryd.sz20 : szOf Tryd.prog 20 = some 1 := by kernel_rfl
theorem Tryd.zr20 : zeroOf Tryd.prog 20 = some (.nilIface) := by kernel_rfl
theorem Tryd.by20 : byOf Tryd.prog 20 = some (.nilIface, 1, 16) := by kernel_rfl
theorem Tryd.sz21 : szOf Tryd.prog 21 = some 1 := by kernel_rfl
theorem Tryd.zr21 : zeroOf Tryd.prog 21 = some (.int .i32 0) := by kernel_rfl
theorem Tryd.by21 : byOf Tryd.prog 21 = some (.int .i32 0, 1, 4) := by kernel_rfl
theorem Tryd.sz22 : szOf Tryd.prog 22 = some 1 := by kernel_rfl
theorem Tryd.zr22 : zeroOf Tryd.prog 22 = some (.slice none 0 0) := by kernel_rfl
theorem Tryd.by22 : byOf Tryd.prog 22 = some (.slice none 0 0, 1, 24) := by kernel_rfl
theorem Tryd.sz23 : szOf Tryd.prog 23 = some 1 := by kernel_rfl
theorem Tryd.zr23 : zeroOf Tryd.prog 23 = some (.slice none 0 0) := by kernel_rfl
theorem Tryd.by23 : byOf Tryd.prog 23 = some (.slice none 0 0, 1, 24) := by kernel_rfl
theorem Tryd.sz24 : szOf Tryd.prog 24 = some 1 := by kernel_rfl
theorem Tryd.zr24 : zeroOf Tryd.prog 24 = some (.nilFunc) := by kernel_rfl
theorem Tryd.by24 : byOf Tryd.prog 24 = some (.nilFunc, 1, 8) := by kernel_rfl
theorem Tryd.sz25 : szOf Tryd.prog 25 = some 1 := by kernel_rfl
theorem Tryd.zr25 : zeroOf Tryd.prog 25 = some (.pointer none) := by kernel_rfl
theorem Tryd.by25 : byOf Tryd.prog 25 = some (.pointer none, 1, 8) := by kernel_rfl
theorem Tryd.sz26 : szOf Tryd.prog 26 = some 1 := by kernel_rfl
theorem Tryd.zr26 : zeroOf Tryd.prog 26 = some (.int .i64 0) := by kernel_rfl
theorem Tryd.by26 : byOf Tryd.prog 26 = some (.int .i64 0, 1, 8) := by kernel_rfl
theorem Tryd.sz28 : szOf Tryd.prog 28 = some 1 := by kernel_rfl
theorem Tryd.zr28 : zeroOf Tryd.prog 28 = some (.nilFunc) := by kernel_rfl
theorem Tryd.by28 : byOf Tryd.prog 28 = some (.nilFunc, 1, 8) := by kernel_rfl
theorem Tryd.sz29 : szOf Tryd.prog 29 = some 1 := by kernel_rfl
theorem Tryd.zr29 : zeroOf Tryd.prog 29 = some (.int .u64 0) := by kernel_rfl
theorem Tryd.by29 : byOf Tryd.prog 29 = some (.int .u64 0, 1, 8) := by kernel_rfl
theorem Tryd.sz30 : szOf Tryd.prog 30 = some 1 := by kernel_rfl
theorem Tryd.zr30 : zeroOf Tryd.prog 30 = some (.slice none 0 0) := by kernel_rfl
theorem Tryd.by30 : byOf Tryd.prog 30 = some (.slice none 0 0, 1, 24) := by kernel_rfl
theorem Tryd.sz31 : szOf Tryd.prog 31 = some 1 := by kernel_rfl
theorem Tryd.zr31 : zeroOf Tryd.prog 31 = some (.slice none 0 0) := by kernel_rfl
theorem Tryd.by31 : byOf Tryd.prog 31 = some (.slice none 0 0, 1, 24) := by kernel_rfl
theorem Tryd.sz32 : szOf Tryd.prog 32 = some 1 := by kernel_rfl
theorem Tryd.zr32 : zeroOf Tryd.prog 32 = some (.nilFunc) := by kernel_rfl
theorem Tryd.by32 : byOf Tryd.prog 32 = some (.nilFunc, 1, 8) := by kernel_rfl
theorem Tryd.sz33 : szOf Tryd.prog 33 = some 1 := by kernel_rfl
theorem Tryd.zr33 : zeroOf Tryd.prog 33 = some (.slice none 0 0) := by kernel_rfl
theorem Tryd.by33 : byOf Tryd.prog 33 = some (.slice none 0 0, 1, 24) := by kernel_rfl
theorem Tryd.sz34 : szOf Tryd.prog 34 = some 1 := by kernel_rfl
theorem Tryd.zr34 : zeroOf Tryd.prog 34 = some (.nilFunc) := by kernel_rfl
theorem Tryd.by34 : byOf Tryd.prog 34 = some (.nilFunc, 1, 8) := by kernel_rfl
theorem Tryd.sz35 : szOf Tryd.prog 35 = some 1 := by kernel_rfl
theorem Tryd.zr35 : zeroOf Tryd.prog 35 = some (.nilFunc) := by kernel_rfl
theorem Tryd.by35 : byOf Tryd.prog 35 = some (.nilFunc, 1, 8) := by kernel_rfl
theorem Tryd.sz36 : szOf Tryd.prog 36 = some 32 := by kernel_rfl
theorem Tryd.zr36 : zeroOf Tryd.prog 36 = some (idV (List.replicate 32 0)) := by kernel_rfl
theorem Tryd.by36 : byOf Tryd.prog 36 = some (idV (List.replicate 32 0), 32, 32) := by kernel_rfl
theorem Tryd.sz37 : szOf Tryd.prog 37 = some 32 := by kernel_rfl
theorem Tryd.zr37 : zeroOf Tryd.prog 37 = some (idV (List.replicate 32 0)) := by kernel_rfl
theorem Tryd.by37 : byOf Tryd.prog 37 = some (idV (List.replicate 32 0), 32, 32) := by kernel_rfl
theorem Tryd.lv37 : leaves Tryd.prog 10 37 = some (List.replicate 32 (lInt .u8)) := by kernel_rfl
theorem Tryd.gd37 : Program.eqGuardType Tryd.prog (Program.depth Tryd.prog) 37 = false := by kernel_rfl
theorem Tryd.sz39 : szOf Tryd.prog 39 = some 2 := by kernel_rfl
theorem Tryd.zr39 : zeroOf Tryd.prog 39 = some (.agg #[.int .u8 0, .int .u8 0]) := by kernel_rfl
theorem Tryd.by39 : byOf Tryd.prog 39 = some (.agg #[.int .u8 0, .int .u8 0], 2, 2) := by kernel_rfl
theorem Tryd.ql39 : plOf Tryd.prog 39 = some [(0, 1), (1, 1)] := by kernel_rfl
theorem Tryd.pl39 : (match Program.underlying Tryd.prog 39 with | some (.struct fs) => placesOf Tryd.prog fs.toList | _ => none) = some [(0, 1), (1, 1)] := by kernel_rfl
theorem Tryd.sz40 : szOf Tryd.prog 40 = some 2 := by kernel_rfl
theorem Tryd.zr40 : zeroOf Tryd.prog 40 = some (.agg #[.int .u8 0, .int .u8 0]) := by kernel_rfl
theorem Tryd.by40 : byOf Tryd.prog 40 = some (.agg #[.int .u8 0, .int .u8 0], 2, 2) := by kernel_rfl
theorem Tryd.ql40 : plOf Tryd.prog 40 = some [(0, 1), (1, 1)] := by kernel_rfl
theorem Tryd.pl40 : (match Program.underlying Tryd.prog 40 with | some (.struct fs) => placesOf Tryd.prog fs.toList | _ => none) = some [(0, 1), (1, 1)] := by kernel_rfl
theorem Tryd.sz41 : szOf Tryd.prog 41 = some 1 := by kernel_rfl
theorem Tryd.zr41 : zeroOf Tryd.prog 41 = some (.nilFunc) := by kernel_rfl
theorem Tryd.by41 : byOf Tryd.prog 41 = some (.nilFunc, 1, 8) := by kernel_rfl
theorem Tryd.sz42 : szOf Tryd.prog 42 = some 33 := by kernel_rfl
theorem Tryd.zr42 : zeroOf Tryd.prog 42 = some (.agg #[.int .u8 0, .int .u8 0, .int .u8 0, .int .u8 0, .int .u8 0, .int .u8 0, .int .u8 0, .int .u8 0, .int .u8 0, .int .u8 0, .int .u8 0, .int .u8 0, .int .u8 0, .int .u8 0, .int .u8 0, .int .u8 0, .int .u8 0, .int .u8 0, .int .u8 0, .int .u8 0, .int .u8 0, .int .u8 0, .int .u8 0, .int .u8 0, .int .u8 0, .int .u8 0, .int .u8 0, .int .u8 0, .int .u8 0, .int .u8 0, .int .u8 0, .int .u8 0, .int .i64 0]) := by kernel_rfl
theorem Tryd.by42 : byOf Tryd.prog 42 = some (.agg #[.int .u8 0, .int .u8 0, .int .u8 0, .int .u8 0, .int .u8 0, .int .u8 0, .int .u8 0, .int .u8 0, .int .u8 0, .int .u8 0, .int .u8 0, .int .u8 0, .int .u8 0, .int .u8 0, .int .u8 0, .int .u8 0, .int .u8 0, .int .u8 0, .int .u8 0, .int .u8 0, .int .u8 0, .int .u8 0, .int .u8 0, .int .u8 0, .int .u8 0, .int .u8 0, .int .u8 0, .int .u8 0, .int .u8 0, .int .u8 0, .int .u8 0, .int .u8 0, .int .i64 0], 33, 40) := by kernel_rfl
theorem Tryd.ql42 : plOf Tryd.prog 42 = some [(0, 32), (32, 1)] := by kernel_rfl
theorem Tryd.pl42 : (match Program.underlying Tryd.prog 42 with | some (.struct fs) => placesOf Tryd.prog fs.toList | _ => none) = some [(0, 32), (32, 1)] := by kernel_rfl
theorem Tryd.sz43 : szOf Tryd.prog 43 = some 33 := by kernel_rfl
theorem Tryd.zr43 : zeroOf Tryd.prog 43 = some (.agg #[.int .u8 0, .int .u8 0, .int .u8 0, .int .u8 0, .int .u8 0, .int .u8 0, .int .u8 0, .int .u8 0, .int .u8 0, .int .u8 0, .int .u8 0, .int .u8 0, .int .u8 0, .int .u8 0, .int .u8 0, .int .u8 0, .int .u8 0, .int .u8 0, .int .u8 0, .int .u8 0, .int .u8 0, .int .u8 0, .int .u8 0, .int .u8 0, .int .u8 0, .int .u8 0, .int .u8 0, .int .u8 0, .int .u8 0, .int .u8 0, .int .u8 0, .int .u8 0, .int .i64 0]) := by kernel_rfl
theorem Tryd.by43 : byOf Tryd.prog 43 = some (.agg #[.int .u8 0, .int .u8 0, .int .u8 0, .int .u8 0, .int .u8 0, .int .u8 0, .int .u8 0, .int .u8 0, .int .u8 0, .int .u8 0, .int .u8 0, .int .u8 0, .int .u8 0, .int .u8 0, .int .u8 0, .int .u8 0, .int .u8 0, .int .u8 0, .int .u8 0, .int .u8 0, .int .u8 0, .int .u8 0, .int .u8 0, .int .u8 0, .int .u8 0, .int .u8 0, .int .u8 0, .int .u8 0, .int .u8 0, .int .u8 0, .int .u8 0, .int .u8 0, .int .i64 0], 33, 40) := by kernel_rfl
theorem Tryd.lv43 : leaves Tryd.prog 10 43 = some (List.replicate 32 (lInt .u8) ++ [lInt .i64]) := by kernel_rfl
theorem Tryd.gd43 : Program.eqGuardType Tryd.prog (Program.depth Tryd.prog) 43 = false := by kernel_rfl
theorem Tryd.ql43 : plOf Tryd.prog 43 = some [(0, 32), (32, 1)] := by kernel_rfl
theorem Tryd.pl43 : (match Program.underlying Tryd.prog 43 with | some (.struct fs) => placesOf Tryd.prog fs.toList | _ => none) = some [(0, 32), (32, 1)] := by kernel_rfl
theorem Tryd.sz44 : szOf Tryd.prog 44 = some 1 := by kernel_rfl
theorem Tryd.zr44 : zeroOf Tryd.prog 44 = some (.nilFunc) := by kernel_rfl
theorem Tryd.by44 : byOf Tryd.prog 44 = some (.nilFunc, 1, 8) := by kernel_rfl
theorem Tryd.sz45 : szOf Tryd.prog 45 = some 1 := by kernel_rfl
theorem Tryd.zr45 : zeroOf Tryd.prog 45 = some (.nilFunc) := by kernel_rfl
theorem Tryd.by45 : byOf Tryd.prog 45 = some (.nilFunc, 1, 8) := by kernel_rfl
theorem Tryd.sz46 : szOf Tryd.prog 46 = some 1 := by kernel_rfl
theorem Tryd.zr46 : zeroOf Tryd.prog 46 = some (.nilFunc) := by kernel_rfl
theorem Tryd.by46 : byOf Tryd.prog 46 = some (.nilFunc, 1, 8) := by kernel_rfl
theorem Tryd.sz47 : szOf Tryd.prog 47 = some 1 := by kernel_rfl
theorem Tryd.zr47 : zeroOf Tryd.prog 47 = some (.nilFunc) := by kernel_rfl
theorem Tryd.by47 : byOf Tryd.prog 47 = some (.nilFunc, 1, 8) := by kernel_rfl
theorem Tryd.sz48 : szOf Tryd.prog 48 = some 1 := by kernel_rfl
theorem Tryd.zr48 : zeroOf Tryd.prog 48 = some (.nilFunc) := by kernel_rfl
theorem Tryd.by48 : byOf Tryd.prog 48 = some (.nilFunc, 1, 8) := by kernel_rfl
theorem Tryd.sz49 : szOf Tryd.prog 49 = some 1 := by kernel_rfl
theorem Tryd.zr49 : zeroOf Tryd.prog 49 = some (.slice none 0 0) := by kernel_rfl
theorem Tryd.by49 : byOf Tryd.prog 49 = some (.slice none 0 0, 1, 24) := by kernel_rfl
theorem Tryd.sz50 : szOf Tryd.prog 50 = some 34 := by kernel_rfl
theorem Tryd.zr50 : zeroOf Tryd.prog 50 = some (.agg #[.int .u8 0, .int .u8 0, .int .u8 0, .int .u8 0, .int .u8 0, .int .u8 0, .int .u8 0, .int .u8 0, .int .u8 0, .int .u8 0, .int .u8 0, .int .u8 0, .int .u8 0, .int .u8 0, .int .u8 0, .int .u8 0, .int .u8 0, .int .u8 0, .int .u8 0, .int .u8 0, .int .u8 0, .int .u8 0, .int .u8 0, .int .u8 0, .int .u8 0, .int .u8 0, .int .u8 0, .int .u8 0, .int .u8 0, .int .u8 0, .int .u8 0, .int .u8 0, .int .u8 0, .int .i64 0]) := by kernel_rfl
theorem Tryd.by50 : byOf Tryd.prog 50 = some (.agg #[.int .u8 0, .int .u8 0, .int .u8 0, .int .u8 0, .int .u8 0, .int .u8 0, .int .u8 0, .int .u8 0, .int .u8 0, .int .u8 0, .int .u8 0, .int .u8 0, .int .u8 0, .int .u8 0, .int .u8 0, .int .u8 0, .int .u8 0, .int .u8 0, .int .u8 0, .int .u8 0, .int .u8 0, .int .u8 0, .int .u8 0, .int .u8 0, .int .u8 0, .int .u8 0, .int .u8 0, .int .u8 0, .int .u8 0, .int .u8 0, .int .u8 0, .int .u8 0, .int .u8 0, .int .i64 0], 34, 48) := by kernel_rfl
theorem Tryd.ql50 : plOf Tryd.prog 50 = some [(0, 1), (1, 32), (33, 1)] := by kernel_rfl
theorem Tryd.pl50 : (match Program.underlying Tryd.prog 50 with | some (.struct fs) => placesOf Tryd.prog fs.toList | _ => none) = some [(0, 1), (1, 32), (33, 1)] := by kernel_rfl
theorem Tryd.sz51 : szOf Tryd.prog 51 = some 34 := by kernel_rfl
theorem Tryd.zr51 : zeroOf Tryd.prog 51 = some (.agg #[.int .u8 0, .int .u8 0, .int .u8 0, .int .u8 0, .int .u8 0, .int .u8 0, .int .u8 0, .int .u8 0, .int .u8 0, .int .u8 0, .int .u8 0, .int .u8 0, .int .u8 0, .int .u8 0, .int .u8 0, .int .u8 0, .int .u8 0, .int .u8 0, .int .u8 0, .int .u8 0, .int .u8 0, .int .u8 0, .int .u8 0, .int .u8 0, .int .u8 0, .int .u8 0, .int .u8 0, .int .u8 0, .int .u8 0, .int .u8 0, .int .u8 0, .int .u8 0, .int .u8 0, .int .i64 0]) := by kernel_rfl
theorem Tryd.by51 : byOf Tryd.prog 51 = some (.agg #[.int .u8 0, .int .u8 0, .int .u8 0, .int .u8 0, .int .u8 0, .int .u8 0, .int .u8 0, .int .u8 0, .int .u8 0, .int .u8 0, .int .u8 0, .int .u8 0, .int .u8 0, .int .u8 0, .int .u8 0, .int .u8 0, .int .u8 0, .int .u8 0, .int .u8 0, .int .u8 0, .int .u8 0, .int .u8 0, .int .u8 0, .int .u8 0, .int .u8 0, .int .u8 0, .int .u8 0, .int .u8 0, .int .u8 0, .int .u8 0, .int .u8 0, .int .u8 0, .int .u8 0, .int .i64 0], 34, 48) := by kernel_rfl
theorem Tryd.ql51 : plOf Tryd.prog 51 = some [(0, 1), (1, 32), (33, 1)] := by kernel_rfl
theorem Tryd.pl51 : (match Program.underlying Tryd.prog 51 with | some (.struct fs) => placesOf Tryd.prog fs.toList | _ => none) = some [(0, 1), (1, 32), (33, 1)] := by kernel_rfl
theorem Tryd.sz53 : szOf Tryd.prog 53 = some 1 := by kernel_rfl
theorem Tryd.zr53 : zeroOf Tryd.prog 53 = some (.nilFunc) := by kernel_rfl
theorem Tryd.by53 : byOf Tryd.prog 53 = some (.nilFunc, 1, 8) := by kernel_rfl
theorem Tryd.sz54 : szOf Tryd.prog 54 = some 1 := by kernel_rfl
theorem Tryd.zr54 : zeroOf Tryd.prog 54 = some (.nilFunc) := by kernel_rfl
theorem Tryd.by54 : byOf Tryd.prog 54 = some (.nilFunc, 1, 8) := by kernel_rfl
theorem Tryd.sz55 : szOf Tryd.prog 55 = some 1 := by kernel_rfl
theorem Tryd.zr55 : zeroOf Tryd.prog 55 = some (.map none) := by kernel_rfl
theorem Tryd.by55 : byOf Tryd.prog 55 = some (.map none, 1, 8) := by kernel_rfl
theorem Tryd.sz56 : szOf Tryd.prog 56 = some 1 := by kernel_rfl
theorem Tryd.zr56 : zeroOf Tryd.prog 56 = some (.slice none 0 0) := by kernel_rfl
theorem Tryd.by56 : byOf Tryd.prog 56 = some (.slice none 0 0, 1, 24) := by kernel_rfl
theorem Tryd.sz57 : szOf Tryd.prog 57 = some 2 := by kernel_rfl
theorem Tryd.zr57 : zeroOf Tryd.prog 57 = some (.agg #[.int .i64 0, .slice none 0 0]) := by kernel_rfl
theorem Tryd.by57 : byOf Tryd.prog 57 = some (.agg #[.int .i64 0, .slice none 0 0], 2, 32) := by kernel_rfl
theorem Tryd.ql57 : plOf Tryd.prog 57 = some [(0, 1), (1, 1)] := by kernel_rfl
theorem Tryd.pl57 : (match Program.underlying Tryd.prog 57 with | some (.struct fs) => placesOf Tryd.prog fs.toList | _ => none) = some [(0, 1), (1, 1)] := by kernel_rfl
theorem Tryd.sz58 : szOf Tryd.prog 58 = some 2 := by kernel_rfl
theorem Tryd.zr58 : zeroOf Tryd.prog 58 = some (.agg #[.int .i64 0, .slice none 0 0]) := by kernel_rfl
theorem Tryd.by58 : byOf Tryd.prog 58 = some (.agg #[.int .i64 0, .slice none 0 0], 2, 32) := by kernel_rfl
theorem Tryd.ql58 : plOf Tryd.prog 58 = some [(0, 1), (1, 1)] := by kernel_rfl
theorem Tryd.pl58 : (match Program.underlying Tryd.prog 58 with | some (.struct fs) => placesOf Tryd.prog fs.toList | _ => none) = some [(0, 1), (1, 1)] := by kernel_rfl
theorem Tryd.sz60 : szOf Tryd.prog 60 = some 1 := by kernel_rfl
theorem Tryd.zr60 : zeroOf Tryd.prog 60 = some (.nilFunc) := by kernel_rfl
theorem Tryd.by60 : byOf Tryd.prog 60 = some (.nilFunc, 1, 8) := by kernel_rfl
theorem Tryd.sz61 : szOf Tryd.prog 61 = some 1 := by kernel_rfl
theorem Tryd.zr61 : zeroOf Tryd.prog 61 = some (.nilFunc) := by kernel_rfl
theorem Tryd.by61 : byOf Tryd.prog 61 = some (.nilFunc, 1, 8) := by kernel_rfl
theorem Tryd.sz63 : szOf Tryd.prog 63 = some 1 := by kernel_rfl
theorem Tryd.zr63 : zeroOf Tryd.prog 63 = some (.nilFunc) := by kernel_rfl
theorem Tryd.by63 : byOf Tryd.prog 63 = some (.nilFunc, 1, 8) := by kernel_rfl
theorem Tryd.sz64 : szOf Tryd.prog 64 = some 1 := by kernel_rfl
theorem Tryd.zr64 : zeroOf Tryd.prog 64 = some (.nilFunc) := by kernel_rfl
theorem Tryd.by64 : byOf Tryd.prog 64 = some (.nilFunc, 1, 8) := by kernel_rfl
theorem Tryd.sz66 : szOf Tryd.prog 66 = some 1 := by kernel_rfl
theorem Tryd.zr66 : zeroOf Tryd.prog 66 = some (.nilFunc) := by kernel_rfl
theorem Tryd.by66 : byOf Tryd.prog 66 = some (.nilFunc, 1, 8) := by kernel_rfl
theorem Tryd.sz67 : szOf Tryd.prog 67 = some 1 := by kernel_rfl
theorem Tryd.zr67 : zeroOf Tryd.prog 67 = some (.nilFunc) := by kernel_rfl
theorem Tryd.by67 : byOf Tryd.prog 67 = some (.nilFunc, 1, 8) := by kernel_rfl
theorem Tryd.sz68 : szOf Tryd.prog 68 = some 1 := by kernel_rfl
theorem Tryd.zr68 : zeroOf Tryd.prog 68 = some (.nilFunc) := by kernel_rfl
theorem Tryd.by68 : byOf Tryd.prog 68 = some (.nilFunc, 1, 8) := by kernel_rfl
theorem Tryd.sz69 : szOf Tryd.prog 69 = some 1 := by kernel_rfl
theorem Tryd.zr69 : zeroOf Tryd.prog 69 = some (.nilFunc) := by kernel_rfl
theorem Tryd.by69 : byOf Tryd.prog 69 = some (.nilFunc, 1, 8) := by kernel_rfl
theorem Tryd.sz70 : szOf Tryd.prog 70 = some 1 := by kernel_rfl
theorem Tryd.zr70 : zeroOf Tryd.prog 70 = some (.nilFunc) := by kernel_rfl
theorem Tryd.by70 : byOf Tryd.prog 70 = some (.nilFunc, 1, 8) := by kernel_rfl
theorem Tryd.sz71 : szOf Tryd.prog 71 = some 1 := by kernel_rfl
theorem Tryd.zr71 : zeroOf Tryd.prog 71 = some (.nilFunc) := by kernel_rfl
theorem Tryd.by71 : byOf Tryd.prog 71 = some (.nilFunc, 1, 8) := by kernel_rfl
theorem Tryd.sz72 : szOf Tryd.prog 72 = some 34 := by kernel_rfl
theorem Tryd.zr72 : zeroOf Tryd.prog 72 = some (.agg #[.int .u8 0, .int .u8 0, .int .u8 0, .int .u8 0, .int .u8 0, .int .u8 0, .int .u8 0, .int .u8 0, .int .u8 0, .int .u8 0, .int .u8 0, .int .u8 0, .int .u8 0, .int .u8 0, .int .u8 0, .int .u8 0, .int .u8 0, .int .u8 0, .int .u8 0, .int .u8 0, .int .u8 0, .int .u8 0, .int .u8 0, .int .u8 0, .int .u8 0, .int .u8 0, .int .u8 0, .int .u8 0, .int .u8 0, .int .u8 0, .int .u8 0, .int .u8 0, .int .i64 0, .int .i64 0]) := by kernel_rfl
theorem Tryd.by72 : byOf Tryd.prog 72 = some (.agg #[.int .u8 0, .int .u8 0, .int .u8 0, .int .u8 0, .int .u8 0, .int .u8 0, .int .u8 0, .int .u8 0, .int .u8 0, .int .u8 0, .int .u8 0, .int .u8 0, .int .u8 0, .int .u8 0, .int .u8 0, .int .u8 0, .int .u8 0, .int .u8 0, .int .u8 0, .int .u8 0, .int .u8 0, .int .u8 0, .int .u8 0, .int .u8 0, .int .u8 0, .int .u8 0, .int .u8 0, .int .u8 0, .int .u8 0, .int .u8 0, .int .u8 0, .int .u8 0, .int .i64 0, .int .i64 0], 34, 48) := by kernel_rfl
theorem Tryd.ql72 : plOf Tryd.prog 72 = some [(0, 32), (32, 1), (33, 1)] := by kernel_rfl
theorem Tryd.pl72 : (match Program.underlying Tryd.prog 72 with | some (.struct fs) => placesOf Tryd.prog fs.toList | _ => none) = some [(0, 32), (32, 1), (33, 1)] := by kernel_rfl
theorem Tryd.sz73 : szOf Tryd.prog 73 = some 34 := by kernel_rfl
theorem Tryd.zr73 : zeroOf Tryd.prog 73 = some (.agg #[.int .u8 0, .int .u8 0, .int .u8 0, .int .u8 0, .int .u8 0, .int .u8 0, .int .u8 0, .int .u8 0, .int .u8 0, .int .u8 0, .int .u8 0, .int .u8 0, .int .u8 0, .int .u8 0, .int .u8 0, .int .u8 0, .int .u8 0, .int .u8 0, .int .u8 0, .int .u8 0, .int .u8 0, .int .u8 0, .int .u8 0, .int .u8 0, .int .u8 0, .int .u8 0, .int .u8 0, .int .u8 0, .int .u8 0, .int .u8 0, .int .u8 0, .int .u8 0, .int .i64 0, .int .i64 0]) := by kernel_rfl
theorem Tryd.by73 : byOf Tryd.prog 73 = some (.agg #[.int .u8 0, .int .u8 0, .int .u8 0, .int .u8 0, .int .u8 0, .int .u8 0, .int .u8 0, .int .u8 0, .int .u8 0, .int .u8 0, .int .u8 0, .int .u8 0, .int .u8 0, .int .u8 0, .int .u8 0, .int .u8 0, .int .u8 0, .int .u8 0, .int .u8 0, .int .u8 0, .int .u8 0, .int .u8 0, .int .u8 0, .int .u8 0, .int .u8 0, .int .u8 0, .int .u8 0, .int .u8 0, .int .u8 0, .int .u8 0, .int .u8 0, .int .u8 0, .int .i64 0, .int .i64 0], 34, 48) := by kernel_rfl
theorem Tryd.lv73 : leaves Tryd.prog 10 73 = some (List.replicate 32 (lInt .u8) ++ List.replicate 2 (lInt .i64)) := by kernel_rfl
theorem Tryd.gd73 : Program.eqGuardType Tryd.prog (Program.depth Tryd.prog) 73 = false := by kernel_rfl
theorem Tryd.ql73 : plOf Tryd.prog 73 = some [(0, 32), (32, 1), (33, 1)] := by kernel_rfl
theorem Tryd.pl73 : (match Program.underlying Tryd.prog 73 with | some (.struct fs) => placesOf Tryd.prog fs.toList | _ => none) = some [(0, 32), (32, 1), (33, 1)] := by kernel_rfl
theorem Tryd.sz74 : szOf Tryd.prog 74 = some 1 := by kernel_rfl
theorem Tryd.zr74 : zeroOf Tryd.prog 74 = some (.nilFunc) := by kernel_rfl
theorem Tryd.by74 : byOf Tryd.prog 74 = some (.nilFunc, 1, 8) := by kernel_rfl
theorem Tryd.sz75 : szOf Tryd.prog 75 = some 1 := by kernel_rfl
theorem Tryd.zr75 : zeroOf Tryd.prog 75 = some (.nilFunc) := by kernel_rfl
theorem Tryd.by75 : byOf Tryd.prog 75 = some (.nilFunc, 1, 8) := by kernel_rfl
theorem Tryd.sz76 : szOf Tryd.prog 76 = some 1 := by kernel_rfl
theorem Tryd.zr76 : zeroOf Tryd.prog 76 = some (.slice none 0 0) := by kernel_rfl
theorem Tryd.by76 : byOf Tryd.prog 76 = some (.slice none 0 0, 1, 24) := by kernel_rfl
theorem Tryd.sz77 : szOf Tryd.prog 77 = some 2 := by kernel_rfl
theorem Tryd.zr77 : zeroOf Tryd.prog 77 = some (.agg #[.int .i64 0, .slice none 0 0]) := by kernel_rfl
theorem Tryd.by77 : byOf Tryd.prog 77 = some (.agg #[.int .i64 0, .slice none 0 0], 2, 32) := by kernel_rfl
theorem Tryd.ql77 : plOf Tryd.prog 77 = some [(0, 1), (1, 1)] := by kernel_rfl
theorem Tryd.pl77 : (match Program.underlying Tryd.prog 77 with | some (.struct fs) => placesOf Tryd.prog fs.toList | _ => none) = some [(0, 1), (1, 1)] := by kernel_rfl
theorem Tryd.sz78 : szOf Tryd.prog 78 = some 2 := by kernel_rfl
theorem Tryd.zr78 : zeroOf Tryd.prog 78 = some (.agg #[.int .i64 0, .slice none 0 0]) := by kernel_rfl
theorem Tryd.by78 : byOf Tryd.prog 78 = some (.agg #[.int .i64 0, .slice none 0 0], 2, 32) := by kernel_rfl
theorem Tryd.ql78 : plOf Tryd.prog 78 = some [(0, 1), (1, 1)] := by kernel_rfl
theorem Tryd.pl78 : (match Program.underlying Tryd.prog 78 with | some (.struct fs) => placesOf Tryd.prog fs.toList | _ => none) = some [(0, 1), (1, 1)] := by kernel_rfl
theorem Tryd.sz79 : szOf Tryd.prog 79 = some 1 := by kernel_rfl
theorem Tryd.zr79 : zeroOf Tryd.prog 79 = some (.nilFunc) := by kernel_rfl
theorem Tryd.by79 : byOf Tryd.prog 79 = some (.nilFunc, 1, 8) := by kernel_rfl
theorem Tryd.sz80 : szOf Tryd.prog 80 = some 34 := by kernel_rfl
theorem Tryd.zr80 : zeroOf Tryd.prog 80 = some (.agg #[.int .u8 0, .int .u8 0, .int .u8 0, .int .u8 0, .int .u8 0, .int .u8 0, .int .u8 0, .int .u8 0, .int .u8 0, .int .u8 0, .int .u8 0, .int .u8 0, .int .u8 0, .int .u8 0, .int .u8 0, .int .u8 0, .int .u8 0, .int .u8 0, .int .u8 0, .int .u8 0, .int .u8 0, .int .u8 0, .int .u8 0, .int .u8 0, .int .u8 0, .int .u8 0, .int .u8 0, .int .u8 0, .int .u8 0, .int .u8 0, .int .u8 0, .int .u8 0, .int .i64 0, .int .i64 0]) := by kernel_rfl
theorem Tryd.by80 : byOf Tryd.prog 80 = some (.agg #[.int .u8 0, .int .u8 0, .int .u8 0, .int .u8 0, .int .u8 0, .int .u8 0, .int .u8 0, .int .u8 0, .int .u8 0, .int .u8 0, .int .u8 0, .int .u8 0, .int .u8 0, .int .u8 0, .int .u8 0, .int .u8 0, .int .u8 0, .int .u8 0, .int .u8 0, .int .u8 0, .int .u8 0, .int .u8 0, .int .u8 0, .int .u8 0, .int .u8 0, .int .u8 0, .int .u8 0, .int .u8 0, .int .u8 0, .int .u8 0, .int .u8 0, .int .u8 0, .int .i64 0, .int .i64 0], 34, 48) := by kernel_rfl
theorem Tryd.ql80 : plOf Tryd.prog 80 = some [(0, 32), (32, 1), (33, 1)] := by kernel_rfl
theorem Tryd.pl80 : (match Program.underlying Tryd.prog 80 with | some (.struct fs) => placesOf Tryd.prog fs.toList | _ => none) = some [(0, 32), (32, 1), (33, 1)] := by kernel_rfl
theorem Tryd.sz81 : szOf Tryd.prog 81 = some 34 := by kernel_rfl
theorem Tryd.zr81 : zeroOf Tryd.prog 81 = some (.agg #[.int .u8 0, .int .u8 0, .int .u8 0, .int .u8 0, .int .u8 0, .int .u8 0, .int .u8 0, .int .u8 0, .int .u8 0, .int .u8 0, .int .u8 0, .int .u8 0, .int .u8 0, .int .u8 0, .int .u8 0, .int .u8 0, .int .u8 0, .int .u8 0, .int .u8 0, .int .u8 0, .int .u8 0, .int .u8 0, .int .u8 0, .int .u8 0, .int .u8 0, .int .u8 0, .int .u8 0, .int .u8 0, .int .u8 0, .int .u8 0, .int .u8 0, .int .u8 0, .int .i64 0, .int .i64 0]) := by kernel_rfl
theorem Tryd.by81 : byOf Tryd.prog 81 = some (.agg #[.int .u8 0, .int .u8 0, .int .u8 0, .int .u8 0, .int .u8 0, .int .u8 0, .int .u8 0, .int .u8 0, .int .u8 0, .int .u8 0, .int .u8 0, .int .u8 0, .int .u8 0, .int .u8 0, .int .u8 0, .int .u8 0, .int .u8 0, .int .u8 0, .int .u8 0, .int .u8 0, .int .u8 0, .int .u8 0, .int .u8 0, .int .u8 0, .int .u8 0, .int .u8 0, .int .u8 0, .int .u8 0, .int .u8 0, .int .u8 0, .int .u8 0, .int .u8 0, .int .i64 0, .int .i64 0], 34, 48) := by kernel_rfl
theorem Tryd.lv81 : leaves Tryd.prog 10 81 = some (List.replicate 32 (lInt .u8) ++ List.replicate 2 (lInt .i64)) := by kernel_rfl
theorem Tryd.gd81 : Program.eqGuardType Tryd.prog (Program.depth Tryd.prog) 81 = false := by kernel_rfl
theorem Tryd.ql81 : plOf Tryd.prog 81 = some [(0, 32), (32, 1), (33, 1)] := by kernel_rfl
theorem Tryd.pl81 : (match Program.underlying Tryd.prog 81 with | some (.struct fs) => placesOf Tryd.prog fs.toList | _ => none) = some [(0, 32), (32, 1), (33, 1)] := by kernel_rfl
theorem Tryd.sz82 : szOf Tryd.prog 82 = some 1 := by kernel_rfl
theorem Tryd.zr82 : zeroOf Tryd.prog 82 = some (.nilFunc) := by kernel_rfl
theorem Tryd.by82 : byOf Tryd.prog 82 = some (.nilFunc, 1, 8) := by kernel_rfl
theorem Tryd.sz83 : szOf Tryd.prog 83 = some 1 := by kernel_rfl
theorem Tryd.zr83 : zeroOf Tryd.prog 83 = some (.nilFunc) := by kernel_rfl
theorem Tryd.by83 : byOf Tryd.prog 83 = some (.nilFunc, 1, 8) := by kernel_rfl
theorem Tryd.sz84 : szOf Tryd.prog 84 = some 6 := by kernel_rfl
theorem Tryd.zr84 : zeroOf Tryd.prog 84 = some (.agg #[.bool false, .bool false, .bool false, .bool false, .bool false, .bool false]) := by kernel_rfl
theorem Tryd.by84 : byOf Tryd.prog 84 = some (.agg #[.bool false, .bool false, .bool false, .bool false, .bool false, .bool false], 6, 6) := by kernel_rfl
theorem Tryd.sz85 : szOf Tryd.prog 85 = some 36 := by kernel_rfl
theorem Tryd.zr85 : zeroOf Tryd.prog 85 = some (.agg #[.bool false, .bool false, .bool false, .bool false, .bool false, .bool false, .bool false, .bool false, .bool false, .bool false, .bool false, .bool false, .bool false, .bool false, .bool false, .bool false, .bool false, .bool false, .bool false, .bool false, .bool false, .bool false, .bool false, .bool false, .bool false, .bool false, .bool false, .bool false, .bool false, .bool false, .bool false, .bool false, .bool false, .bool false, .bool false, .bool false]) := by kernel_rfl
theorem Tryd.by85 : byOf Tryd.prog 85 = some (.agg #[.bool false, .bool false, .bool false, .bool false, .bool false, .bool false, .bool false, .bool false, .bool false, .bool false, .bool false, .bool false, .bool false, .bool false, .bool false, .bool false, .bool false, .bool false, .bool false, .bool false, .bool false, .bool false, .bool false, .bool false, .bool false, .bool false, .bool false, .bool false, .bool false, .bool false, .bool false, .bool false, .bool false, .bool false, .bool false, .bool false], 36, 36) := by kernel_rfl
theorem Tryd.sz86 : szOf Tryd.prog 86 = some 1 := by kernel_rfl
theorem Tryd.zr86 : zeroOf Tryd.prog 86 = some (.nilFunc) := by kernel_rfl
theorem Tryd.by86 : byOf Tryd.prog 86 = some (.nilFunc, 1, 8) := by kernel_rfl
theorem Tryd.sz87 : szOf Tryd.prog 87 = some 1 := by kernel_rfl
theorem Tryd.zr87 : zeroOf Tryd.prog 87 = some (.nilFunc) := by kernel_rfl
theorem Tryd.by87 : byOf Tryd.prog 87 = some (.nilFunc, 1, 8) := by kernel_rfl
theorem Tryd.sz88 : szOf Tryd.prog 88 = some 1 := by kernel_rfl
theorem Tryd.zr88 : zeroOf Tryd.prog 88 = some (.nilFunc) := by kernel_rfl
theorem Tryd.by88 : byOf Tryd.prog 88 = some (.nilFunc, 1, 8) := by kernel_rfl
theorem Tryd.sz89 : szOf Tryd.prog 89 = some 1 := by kernel_rfl
theorem Tryd.zr89 : zeroOf Tryd.prog 89 = some (.nilFunc) := by kernel_rfl
theorem Tryd.by89 : byOf Tryd.prog 89 = some (.nilFunc, 1, 8) := by kernel_rfl
theorem Tryd.sz90 : szOf Tryd.prog 90 = some 4 := by kernel_rfl
theorem Tryd.zr90 : zeroOf Tryd.prog 90 = some (.agg #[.pointer none, .pointer none, .pointer none, .string ⟨#[]⟩]) := by kernel_rfl
theorem Tryd.by90 : byOf Tryd.prog 90 = some (.agg #[.pointer none, .pointer none, .pointer none, .string ⟨#[]⟩], 4, 40) := by kernel_rfl
theorem Tryd.ql90 : plOf Tryd.prog 90 = some [(0, 1), (1, 1), (2, 1), (3, 1)] := by kernel_rfl
theorem Tryd.pl90 : (match Program.underlying Tryd.prog 90 with | some (.struct fs) => placesOf Tryd.prog fs.toList | _ => none) = some [(0, 1), (1, 1), (2, 1), (3, 1)] := by kernel_rfl
theorem Tryd.sz91 : szOf Tryd.prog 91 = some 4 := by kernel_rfl
theorem Tryd.zr91 : zeroOf Tryd.prog 91 = some (.agg #[.pointer none, .pointer none, .pointer none, .string ⟨#[]⟩]) := by kernel_rfl
theorem Tryd.by91 : byOf Tryd.prog 91 = some (.agg #[.pointer none, .pointer none, .pointer none, .string ⟨#[]⟩], 4, 40) := by kernel_rfl
theorem Tryd.ql91 : plOf Tryd.prog 91 = some [(0, 1), (1, 1), (2, 1), (3, 1)] := by kernel_rfl
theorem Tryd.pl91 : (match Program.underlying Tryd.prog 91 with | some (.struct fs) => placesOf Tryd.prog fs.toList | _ => none) = some [(0, 1), (1, 1), (2, 1), (3, 1)] := by kernel_rfl
theorem Tryd.sz92 : szOf Tryd.prog 92 = some 0 := by kernel_rfl
theorem Tryd.zr92 : zeroOf Tryd.prog 92 = some (.agg #[]) := by kernel_rfl
theorem Tryd.by92 : byOf Tryd.prog 92 = some (.agg #[], 0, 0) := by kernel_rfl
theorem Tryd.sz93 : szOf Tryd.prog 93 = some 0 := by kernel_rfl
theorem Tryd.zr93 : zeroOf Tryd.prog 93 = some (.agg #[]) := by kernel_rfl
theorem Tryd.by93 : byOf Tryd.prog 93 = some (.agg #[], 0, 0) := by kernel_rfl
theorem Tryd.ql93 : plOf Tryd.prog 93 = some [(0, 0)] := by kernel_rfl
theorem Tryd.pl93 : (match Program.underlying Tryd.prog 93 with | some (.struct fs) => placesOf Tryd.prog fs.toList | _ => none) = some [(0, 0)] := by kernel_rfl
theorem Tryd.sz94 : szOf Tryd.prog 94 = some 0 := by kernel_rfl
theorem Tryd.zr94 : zeroOf Tryd.prog 94 = some (.agg #[]) := by kernel_rfl
theorem Tryd.by94 : byOf Tryd.prog 94 = some (.agg #[], 0, 0) := by kernel_rfl
theorem Tryd.ql94 : plOf Tryd.prog 94 = some [(0, 0)] := by kernel_rfl
theorem Tryd.pl94 : (match Program.underlying Tryd.prog 94 with | some (.struct fs) => placesOf Tryd.prog fs.toList | _ => none) = some [(0, 0)] := by kernel_rfl
theorem Tryd.sz95 : szOf Tryd.prog 95 = some 1 := by kernel_rfl
theorem Tryd.zr95 : zeroOf Tryd.prog 95 = some (.int .u32 0) := by kernel_rfl
theorem Tryd.by95 : byOf Tryd.prog 95 = some (.int .u32 0, 1, 4) := by kernel_rfl
theorem Tryd.sz96 : szOf Tryd.prog 96 = some 1 := by kernel_rfl
theorem Tryd.zr96 : zeroOf Tryd.prog 96 = some (.int .u8 0) := by kernel_rfl
theorem Tryd.by96 : byOf Tryd.prog 96 = some (.int .u8 0, 1, 1) := by kernel_rfl
theorem Tryd.sz97 : szOf Tryd.prog 97 = some 1 := by kernel_rfl
theorem Tryd.zr97 : zeroOf Tryd.prog 97 = some (.int .u8 0) := by kernel_rfl
theorem Tryd.by97 : byOf Tryd.prog 97 = some (.int .u8 0, 1, 1) := by kernel_rfl
theorem Tryd.sz98 : szOf Tryd.prog 98 = some 1 := by kernel_rfl
theorem Tryd.zr98 : zeroOf Tryd.prog 98 = some (.nilFunc) := by kernel_rfl
theorem Tryd.by98 : byOf Tryd.prog 98 = some (.nilFunc, 1, 8) := by kernel_rfl
theorem Tryd.sz99 : szOf Tryd.prog 99 = some 1 := by kernel_rfl
theorem Tryd.zr99 : zeroOf Tryd.prog 99 = some (.pointer none) := by kernel_rfl
theorem Tryd.by99 : byOf Tryd.prog 99 = some (.pointer none, 1, 8) := by kernel_rfl
theorem Tryd.sz100 : szOf Tryd.prog 100 = some 1 := by kernel_rfl
theorem Tryd.zr100 : zeroOf Tryd.prog 100 = some (.int .i32 0) := by kernel_rfl
theorem Tryd.by100 : byOf Tryd.prog 100 = some (.int .i32 0, 1, 4) := by kernel_rfl
theorem Tryd.sz101 : szOf Tryd.prog 101 = some 1 := by kernel_rfl
theorem Tryd.zr101 : zeroOf Tryd.prog 101 = some (.int .i32 0) := by kernel_rfl
theorem Tryd.by101 : byOf Tryd.prog 101 = some (.int .i32 0, 1, 4) := by kernel_rfl
theorem Tryd.sz102 : szOf Tryd.prog 102 = some 11 := by kernel_rfl
theorem Tryd.zr102 : zeroOf Tryd.prog 102 = some (.agg #[.int .u64 0, .int .u64 0, .int .u32 0, .int .u8 0, .int .u8 0, .int .u8 0, .int .u8 0, .nilFunc, .pointer none, .int .i32 0, .int .i32 0]) := by kernel_rfl
theorem Tryd.by102 : byOf Tryd.prog 102 = some (.agg #[.int .u64 0, .int .u64 0, .int .u32 0, .int .u8 0, .int .u8 0, .int .u8 0, .int .u8 0, .nilFunc, .pointer none, .int .i32 0, .int .i32 0], 11, 48) := by kernel_rfl
theorem Tryd.ql102 : plOf Tryd.prog 102 = some [(0, 1), (1, 1), (2, 1), (3, 1), (4, 1), (5, 1), (6, 1), (7, 1), (8, 1), (9, 1), (10, 1)] := by kernel_rfl
theorem Tryd.pl102 : (match Program.underlying Tryd.prog 102 with | some (.struct fs) => placesOf Tryd.prog fs.toList | _ => none) = some [(0, 1), (1, 1), (2, 1), (3, 1), (4, 1), (5, 1), (6, 1), (7, 1), (8, 1), (9, 1), (10, 1)] := by kernel_rfl
theorem Tryd.sz103 : szOf Tryd.prog 103 = some 11 := by kernel_rfl
theorem Tryd.zr103 : zeroOf Tryd.prog 103 = some (.agg #[.int .u64 0, .int .u64 0, .int .u32 0, .int .u8 0, .int .u8 0, .int .u8 0, .int .u8 0, .nilFunc, .pointer none, .int .i32 0, .int .i32 0]) := by kernel_rfl
theorem Tryd.by103 : byOf Tryd.prog 103 = some (.agg #[.int .u64 0, .int .u64 0, .int .u32 0, .int .u8 0, .int .u8 0, .int .u8 0, .int .u8 0, .nilFunc, .pointer none, .int .i32 0, .int .i32 0], 11, 48) := by kernel_rfl
theorem Tryd.ql103 : plOf Tryd.prog 103 = some [(0, 1), (1, 1), (2, 1), (3, 1), (4, 1), (5, 1), (6, 1), (7, 1), (8, 1), (9, 1), (10, 1)] := by kernel_rfl
theorem Tryd.pl103 : (match Program.underlying Tryd.prog 103 with | some (.struct fs) => placesOf Tryd.prog fs.toList | _ => none) = some [(0, 1), (1, 1), (2, 1), (3, 1), (4, 1), (5, 1), (6, 1), (7, 1), (8, 1), (9, 1), (10, 1)] := by kernel_rfl
end Go.Proofs.YtajbclcpkgenbaaDoor
