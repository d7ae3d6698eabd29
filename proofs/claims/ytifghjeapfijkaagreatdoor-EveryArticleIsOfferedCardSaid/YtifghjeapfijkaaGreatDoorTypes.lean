/-
  The numbers of cells of the types and their zero values, printed by a program.
-/
import Derived.Test.YtifghjeapfijkaaGreatDoorProg
import Derived.Test.YtifghjeapfijkaaGreatDoorEngCall
import Derived.KernelRfl
namespace Go.Proofs.YtifghjeapfijkaaGreatDoor
open Go.Eng
theorem Tryz.sz1 : szOf Tryz.prog 1 = some 1 := by kernel_rfl
theorem Tryz.zr1 : zeroOf Tryz.prog 1 = some (.nilFunc) := by kernel_rfl
theorem Tryz.by1 : byOf Tryz.prog 1 = some (.nilFunc, 1, 8) := by kernel_rfl
theorem Tryz.sz2 : szOf Tryz.prog 2 = some 1 := by kernel_rfl
theorem Tryz.zr2 : zeroOf Tryz.prog 2 = some (.int .i64 0) := by kernel_rfl
theorem Tryz.by2 : byOf Tryz.prog 2 = some (.int .i64 0, 1, 8) := by kernel_rfl
theorem Tryz.sz3 : szOf Tryz.prog 3 = some 1 := by kernel_rfl
theorem Tryz.zr3 : zeroOf Tryz.prog 3 = some (.int .i64 0) := by kernel_rfl
theorem Tryz.by3 : byOf Tryz.prog 3 = some (.int .i64 0, 1, 8) := by kernel_rfl
theorem Tryz.sz4 : szOf Tryz.prog 4 = some 1 := by kernel_rfl
theorem Tryz.zr4 : zeroOf Tryz.prog 4 = some (.bool false) := by kernel_rfl
theorem Tryz.by4 : byOf Tryz.prog 4 = some (.bool false, 1, 1) := by kernel_rfl
theorem Tryz.sz5 : szOf Tryz.prog 5 = some 1 := by kernel_rfl
theorem Tryz.zr5 : zeroOf Tryz.prog 5 = some (.int .u8 0) := by kernel_rfl
theorem Tryz.by5 : byOf Tryz.prog 5 = some (.int .u8 0, 1, 1) := by kernel_rfl
theorem Tryz.sz6 : szOf Tryz.prog 6 = some 1 := by kernel_rfl
theorem Tryz.zr6 : zeroOf Tryz.prog 6 = some (.int .u8 0) := by kernel_rfl
theorem Tryz.by6 : byOf Tryz.prog 6 = some (.int .u8 0, 1, 1) := by kernel_rfl
theorem Tryz.sz7 : szOf Tryz.prog 7 = some 4 := by kernel_rfl
theorem Tryz.zr7 : zeroOf Tryz.prog 7 = some (.agg #[.int .i64 0, .int .i64 0, .bool false, .int .u8 0]) := by kernel_rfl
theorem Tryz.by7 : byOf Tryz.prog 7 = some (.agg #[.int .i64 0, .int .i64 0, .bool false, .int .u8 0], 4, 24) := by kernel_rfl
theorem Tryz.ql7 : plOf Tryz.prog 7 = some [(0, 1), (1, 1), (2, 1), (3, 1)] := by kernel_rfl
theorem Tryz.pl7 : (match Program.underlying Tryz.prog 7 with | some (.struct fs) => placesOf Tryz.prog fs.toList | _ => none) = some [(0, 1), (1, 1), (2, 1), (3, 1)] := by kernel_rfl
theorem Tryz.sz8 : szOf Tryz.prog 8 = some 4 := by kernel_rfl
theorem Tryz.zr8 : zeroOf Tryz.prog 8 = some (.agg #[.int .i64 0, .int .i64 0, .bool false, .int .u8 0]) := by kernel_rfl
theorem Tryz.by8 : byOf Tryz.prog 8 = some (.agg #[.int .i64 0, .int .i64 0, .bool false, .int .u8 0], 4, 24) := by kernel_rfl
theorem Tryz.ql8 : plOf Tryz.prog 8 = some [(0, 1), (1, 1), (2, 1), (3, 1)] := by kernel_rfl
theorem Tryz.pl8 : (match Program.underlying Tryz.prog 8 with | some (.struct fs) => placesOf Tryz.prog fs.toList | _ => none) = some [(0, 1), (1, 1), (2, 1), (3, 1)] := by kernel_rfl
theorem Tryz.sz9 : szOf Tryz.prog 9 = some 1 := by kernel_rfl
theorem Tryz.zr9 : zeroOf Tryz.prog 9 = some (.string ⟨#[]⟩) := by kernel_rfl
theorem Tryz.by9 : byOf Tryz.prog 9 = some (.string ⟨#[]⟩, 1, 16) := by kernel_rfl
theorem Tryz.sz10 : szOf Tryz.prog 10 = some 1 := by kernel_rfl
theorem Tryz.zr10 : zeroOf Tryz.prog 10 = some (.string ⟨#[]⟩) := by kernel_rfl
theorem Tryz.by10 : byOf Tryz.prog 10 = some (.string ⟨#[]⟩, 1, 16) := by kernel_rfl
theorem Tryz.sz11 : szOf Tryz.prog 11 = some 1 := by kernel_rfl
theorem Tryz.zr11 : zeroOf Tryz.prog 11 = some (.string ⟨#[]⟩) := by kernel_rfl
theorem Tryz.by11 : byOf Tryz.prog 11 = some (.string ⟨#[]⟩, 1, 16) := by kernel_rfl
theorem Tryz.sz12 : szOf Tryz.prog 12 = some 1 := by kernel_rfl
theorem Tryz.zr12 : zeroOf Tryz.prog 12 = some (.int .u64 0) := by kernel_rfl
theorem Tryz.by12 : byOf Tryz.prog 12 = some (.int .u64 0, 1, 8) := by kernel_rfl
theorem Tryz.sz13 : szOf Tryz.prog 13 = some 2 := by kernel_rfl
theorem Tryz.zr13 : zeroOf Tryz.prog 13 = some (.agg #[.string ⟨#[]⟩, .int .u64 0]) := by kernel_rfl
theorem Tryz.by13 : byOf Tryz.prog 13 = some (.agg #[.string ⟨#[]⟩, .int .u64 0], 2, 24) := by kernel_rfl
theorem Tryz.ql13 : plOf Tryz.prog 13 = some [(0, 1), (1, 1)] := by kernel_rfl
theorem Tryz.pl13 : (match Program.underlying Tryz.prog 13 with | some (.struct fs) => placesOf Tryz.prog fs.toList | _ => none) = some [(0, 1), (1, 1)] := by kernel_rfl
theorem Tryz.sz14 : szOf Tryz.prog 14 = some 2 := by kernel_rfl
theorem Tryz.zr14 : zeroOf Tryz.prog 14 = some (.agg #[.string ⟨#[]⟩, .int .u64 0]) := by kernel_rfl
theorem Tryz.by14 : byOf Tryz.prog 14 = some (.agg #[.string ⟨#[]⟩, .int .u64 0], 2, 24) := by kernel_rfl
theorem Tryz.ql14 : plOf Tryz.prog 14 = some [(0, 1), (1, 1)] := by kernel_rfl
theorem Tryz.pl14 : (match Program.underlying Tryz.prog 14 with | some (.struct fs) => placesOf Tryz.prog fs.toList | _ => none) = some [(0, 1), (1, 1)] := by kernel_rfl
theorem Tryz.sz15 : szOf Tryz.prog 15 = some 1 := by kernel_rfl
theorem Tryz.zr15 : zeroOf Tryz.prog 15 = some (.pointer none) := by kernel_rfl
theorem Tryz.by15 : byOf Tryz.prog 15 = some (.pointer none, 1, 8) := by kernel_rfl
theorem Tryz.sz16 : szOf Tryz.prog 16 = some 1 := by kernel_rfl
theorem Tryz.zr16 : zeroOf Tryz.prog 16 = some (.pointer none) := by kernel_rfl
theorem Tryz.by16 : byOf Tryz.prog 16 = some (.pointer none, 1, 8) := by kernel_rfl
theorem Tryz.sz17 : szOf Tryz.prog 17 = some 1 := by kernel_rfl
theorem Tryz.zr17 : zeroOf Tryz.prog 17 = some (.pointer none) := by kernel_rfl
theorem Tryz.by17 : byOf Tryz.prog 17 = some (.pointer none, 1, 8) := by kernel_rfl
theorem Tryz.sz18 : szOf Tryz.prog 18 = some 1 := by kernel_rfl
theorem Tryz.zr18 : zeroOf Tryz.prog 18 = some (.agg #[.pointer none]) := by kernel_rfl
theorem Tryz.by18 : byOf Tryz.prog 18 = some (.agg #[.pointer none], 1, 8) := by kernel_rfl
theorem Tryz.ql18 : plOf Tryz.prog 18 = some [(0, 1)] := by kernel_rfl
theorem Tryz.pl18 : (match Program.underlying Tryz.prog 18 with | some (.struct fs) => placesOf Tryz.prog fs.toList | _ => none) = some [(0, 1)] := by kernel_rfl
theorem Tryz.sz19 : szOf Tryz.prog 19 = some 1 := by kernel_rfl
theorem Tryz.zr19 : zeroOf Tryz.prog 19 = some (.agg #[.pointer none]) := by kernel_rfl
theorem Tryz.by19 : byOf Tryz.prog 19 = some (.agg #[.pointer none], 1, 8) := by kernel_rfl
theorem Tryz.ql19 : plOf Tryz.prog 19 = some [(0, 1)] := by kernel_rfl
theorem Tryz.pl19 : (match Program.underlying Tryz.prog 19 with | some (.struct fs) => placesOf Tryz.prog fs.toList | _ => none) = some [(0, 1)] := by kernel_rfl
theorem Tryz.sz20 : szOf Tryz.prog 20 = some 1 := by kernel_rfl
theorem Tryz.zr20 : zeroOf Tryz.prog 20 = some (.nilIface) := by kernel_rfl
theorem Tryz.by20 : byOf Tryz.prog 20 = some (.nilIface, 1, 16) := by kernel_rfl
theorem Tryz.sz21 : szOf Tryz.prog 21 = some 1 := by kernel_rfl
theorem Tryz.zr21 : zeroOf Tryz.prog 21 = some (.int .i32 0) := by kernel_rfl
theorem Tryz.by21 : byOf Tryz.prog 21 = some (.int .i32 0, 1, 4) := by kernel_rfl
theorem Tryz.sz22 : szOf Tryz.prog 22 = some 1 := by kernel_rfl
theorem Tryz.zr22 : zeroOf Tryz.prog 22 = some (.slice none 0 0) := by kernel_rfl
theorem Tryz.by22 : byOf Tryz.prog 22 = some (.slice none 0 0, 1, 24) := by kernel_rfl
theorem Tryz.sz23 : szOf Tryz.prog 23 = some 2 := by kernel_rfl
theorem Tryz.zr23 : zeroOf Tryz.prog 23 = some (idV (List.replicate 2 0)) := by kernel_rfl
theorem Tryz.by23 : byOf Tryz.prog 23 = some (idV (List.replicate 2 0), 2, 2) := by kernel_rfl
theorem Tryz.sz24 : szOf Tryz.prog 24 = some 1 := by kernel_rfl
theorem Tryz.zr24 : zeroOf Tryz.prog 24 = some (.int .u64 0) := by kernel_rfl
theorem Tryz.by24 : byOf Tryz.prog 24 = some (.int .u64 0, 1, 8) := by kernel_rfl
theorem Tryz.sz25 : szOf Tryz.prog 25 = some 1 := by kernel_rfl
theorem Tryz.zr25 : zeroOf Tryz.prog 25 = some (.nilFunc) := by kernel_rfl
theorem Tryz.by25 : byOf Tryz.prog 25 = some (.nilFunc, 1, 8) := by kernel_rfl
theorem Tryz.sz26 : szOf Tryz.prog 26 = some 1 := by kernel_rfl
theorem Tryz.zr26 : zeroOf Tryz.prog 26 = some (.pointer none) := by kernel_rfl
theorem Tryz.by26 : byOf Tryz.prog 26 = some (.pointer none, 1, 8) := by kernel_rfl
theorem Tryz.sz27 : szOf Tryz.prog 27 = some 1 := by kernel_rfl
theorem Tryz.zr27 : zeroOf Tryz.prog 27 = some (.int .i64 0) := by kernel_rfl
theorem Tryz.by27 : byOf Tryz.prog 27 = some (.int .i64 0, 1, 8) := by kernel_rfl
theorem Tryz.sz29 : szOf Tryz.prog 29 = some 1 := by kernel_rfl
theorem Tryz.zr29 : zeroOf Tryz.prog 29 = some (.nilFunc) := by kernel_rfl
theorem Tryz.by29 : byOf Tryz.prog 29 = some (.nilFunc, 1, 8) := by kernel_rfl
theorem Tryz.sz30 : szOf Tryz.prog 30 = some 1 := by kernel_rfl
theorem Tryz.zr30 : zeroOf Tryz.prog 30 = some (.slice none 0 0) := by kernel_rfl
theorem Tryz.by30 : byOf Tryz.prog 30 = some (.slice none 0 0, 1, 24) := by kernel_rfl
theorem Tryz.sz31 : szOf Tryz.prog 31 = some 5 := by kernel_rfl
theorem Tryz.zr31 : zeroOf Tryz.prog 31 = some (.agg #[.string ⟨#[]⟩, .string ⟨#[]⟩, .int .i64 0, .int .i64 0, .slice none 0 0]) := by kernel_rfl
theorem Tryz.by31 : byOf Tryz.prog 31 = some (.agg #[.string ⟨#[]⟩, .string ⟨#[]⟩, .int .i64 0, .int .i64 0, .slice none 0 0], 5, 72) := by kernel_rfl
theorem Tryz.ql31 : plOf Tryz.prog 31 = some [(0, 1), (1, 1), (2, 1), (3, 1), (4, 1)] := by kernel_rfl
theorem Tryz.pl31 : (match Program.underlying Tryz.prog 31 with | some (.struct fs) => placesOf Tryz.prog fs.toList | _ => none) = some [(0, 1), (1, 1), (2, 1), (3, 1), (4, 1)] := by kernel_rfl
theorem Tryz.sz32 : szOf Tryz.prog 32 = some 5 := by kernel_rfl
theorem Tryz.zr32 : zeroOf Tryz.prog 32 = some (.agg #[.string ⟨#[]⟩, .string ⟨#[]⟩, .int .i64 0, .int .i64 0, .slice none 0 0]) := by kernel_rfl
theorem Tryz.by32 : byOf Tryz.prog 32 = some (.agg #[.string ⟨#[]⟩, .string ⟨#[]⟩, .int .i64 0, .int .i64 0, .slice none 0 0], 5, 72) := by kernel_rfl
theorem Tryz.ql32 : plOf Tryz.prog 32 = some [(0, 1), (1, 1), (2, 1), (3, 1), (4, 1)] := by kernel_rfl
theorem Tryz.pl32 : (match Program.underlying Tryz.prog 32 with | some (.struct fs) => placesOf Tryz.prog fs.toList | _ => none) = some [(0, 1), (1, 1), (2, 1), (3, 1), (4, 1)] := by kernel_rfl
theorem Tryz.sz33 : szOf Tryz.prog 33 = some 1 := by kernel_rfl
theorem Tryz.zr33 : zeroOf Tryz.prog 33 = some (.pointer none) := by kernel_rfl
theorem Tryz.by33 : byOf Tryz.prog 33 = some (.pointer none, 1, 8) := by kernel_rfl
theorem Tryz.sz35 : szOf Tryz.prog 35 = some 1 := by kernel_rfl
theorem Tryz.zr35 : zeroOf Tryz.prog 35 = some (.nilFunc) := by kernel_rfl
theorem Tryz.by35 : byOf Tryz.prog 35 = some (.nilFunc, 1, 8) := by kernel_rfl
theorem Tryz.sz36 : szOf Tryz.prog 36 = some 1 := by kernel_rfl
theorem Tryz.zr36 : zeroOf Tryz.prog 36 = some (.pointer none) := by kernel_rfl
theorem Tryz.by36 : byOf Tryz.prog 36 = some (.pointer none, 1, 8) := by kernel_rfl
theorem Tryz.sz37 : szOf Tryz.prog 37 = some 1 := by kernel_rfl
theorem Tryz.zr37 : zeroOf Tryz.prog 37 = some (.nilFunc) := by kernel_rfl
theorem Tryz.by37 : byOf Tryz.prog 37 = some (.nilFunc, 1, 8) := by kernel_rfl
theorem Tryz.sz38 : szOf Tryz.prog 38 = some 1 := by kernel_rfl
theorem Tryz.zr38 : zeroOf Tryz.prog 38 = some (.map none) := by kernel_rfl
theorem Tryz.by38 : byOf Tryz.prog 38 = some (.map none, 1, 8) := by kernel_rfl
theorem Tryz.sz39 : szOf Tryz.prog 39 = some 1 := by kernel_rfl
theorem Tryz.zr39 : zeroOf Tryz.prog 39 = some (.map none) := by kernel_rfl
theorem Tryz.by39 : byOf Tryz.prog 39 = some (.map none, 1, 8) := by kernel_rfl
theorem Tryz.sz40 : szOf Tryz.prog 40 = some 1 := by kernel_rfl
theorem Tryz.zr40 : zeroOf Tryz.prog 40 = some (.map none) := by kernel_rfl
theorem Tryz.by40 : byOf Tryz.prog 40 = some (.map none, 1, 8) := by kernel_rfl
theorem Tryz.sz41 : szOf Tryz.prog 41 = some 1 := by kernel_rfl
theorem Tryz.zr41 : zeroOf Tryz.prog 41 = some (.slice none 0 0) := by kernel_rfl
theorem Tryz.by41 : byOf Tryz.prog 41 = some (.slice none 0 0, 1, 24) := by kernel_rfl
theorem Tryz.sz42 : szOf Tryz.prog 42 = some 4 := by kernel_rfl
theorem Tryz.zr42 : zeroOf Tryz.prog 42 = some (.agg #[.int .u8 0, .int .u8 0, .int .u8 0, .bool false]) := by kernel_rfl
theorem Tryz.by42 : byOf Tryz.prog 42 = some (.agg #[.int .u8 0, .int .u8 0, .int .u8 0, .bool false], 4, 4) := by kernel_rfl
theorem Tryz.ql42 : plOf Tryz.prog 42 = some [(0, 1), (1, 1), (2, 1), (3, 1)] := by kernel_rfl
theorem Tryz.pl42 : (match Program.underlying Tryz.prog 42 with | some (.struct fs) => placesOf Tryz.prog fs.toList | _ => none) = some [(0, 1), (1, 1), (2, 1), (3, 1)] := by kernel_rfl
theorem Tryz.sz43 : szOf Tryz.prog 43 = some 4 := by kernel_rfl
theorem Tryz.zr43 : zeroOf Tryz.prog 43 = some (.agg #[.int .u8 0, .int .u8 0, .int .u8 0, .bool false]) := by kernel_rfl
theorem Tryz.by43 : byOf Tryz.prog 43 = some (.agg #[.int .u8 0, .int .u8 0, .int .u8 0, .bool false], 4, 4) := by kernel_rfl
theorem Tryz.ql43 : plOf Tryz.prog 43 = some [(0, 1), (1, 1), (2, 1), (3, 1)] := by kernel_rfl
theorem Tryz.pl43 : (match Program.underlying Tryz.prog 43 with | some (.struct fs) => placesOf Tryz.prog fs.toList | _ => none) = some [(0, 1), (1, 1), (2, 1), (3, 1)] := by kernel_rfl
theorem Tryz.sz44 : szOf Tryz.prog 44 = some 32 := by kernel_rfl
theorem Tryz.zr44 : zeroOf Tryz.prog 44 = some (idV (List.replicate 32 0)) := by kernel_rfl
theorem Tryz.by44 : byOf Tryz.prog 44 = some (idV (List.replicate 32 0), 32, 32) := by kernel_rfl
theorem Tryz.sz45 : szOf Tryz.prog 45 = some 32 := by kernel_rfl
theorem Tryz.zr45 : zeroOf Tryz.prog 45 = some (idV (List.replicate 32 0)) := by kernel_rfl
theorem Tryz.by45 : byOf Tryz.prog 45 = some (idV (List.replicate 32 0), 32, 32) := by kernel_rfl
theorem Tryz.lv45 : leaves Tryz.prog 10 45 = some (List.replicate 32 (lInt .u8)) := by kernel_rfl
theorem Tryz.gd45 : Program.eqGuardType Tryz.prog (Program.depth Tryz.prog) 45 = false := by kernel_rfl
theorem Tryz.sz46 : szOf Tryz.prog 46 = some 38 := by kernel_rfl
theorem Tryz.zr46 : zeroOf Tryz.prog 46 = some (.agg #[.int .u8 0, .int .u8 0, .int .u8 0, .int .u8 0, .int .u8 0, .int .u8 0, .int .u8 0, .int .u8 0, .int .u8 0, .int .u8 0, .int .u8 0, .int .u8 0, .int .u8 0, .int .u8 0, .int .u8 0, .int .u8 0, .int .u8 0, .int .u8 0, .int .u8 0, .int .u8 0, .int .u8 0, .int .u8 0, .int .u8 0, .int .u8 0, .int .u8 0, .int .u8 0, .int .u8 0, .int .u8 0, .int .u8 0, .int .u8 0, .int .u8 0, .int .u8 0, .slice none 0 0, .string ⟨#[]⟩, .int .i64 0, .bool false, .string ⟨#[]⟩, .int .i64 0]) := by kernel_rfl
theorem Tryz.by46 : byOf Tryz.prog 46 = some (.agg #[.int .u8 0, .int .u8 0, .int .u8 0, .int .u8 0, .int .u8 0, .int .u8 0, .int .u8 0, .int .u8 0, .int .u8 0, .int .u8 0, .int .u8 0, .int .u8 0, .int .u8 0, .int .u8 0, .int .u8 0, .int .u8 0, .int .u8 0, .int .u8 0, .int .u8 0, .int .u8 0, .int .u8 0, .int .u8 0, .int .u8 0, .int .u8 0, .int .u8 0, .int .u8 0, .int .u8 0, .int .u8 0, .int .u8 0, .int .u8 0, .int .u8 0, .int .u8 0, .slice none 0 0, .string ⟨#[]⟩, .int .i64 0, .bool false, .string ⟨#[]⟩, .int .i64 0], 38, 112) := by kernel_rfl
theorem Tryz.ql46 : plOf Tryz.prog 46 = some [(0, 32), (32, 1), (33, 1), (34, 1), (35, 1), (36, 1), (37, 1)] := by kernel_rfl
theorem Tryz.pl46 : (match Program.underlying Tryz.prog 46 with | some (.struct fs) => placesOf Tryz.prog fs.toList | _ => none) = some [(0, 32), (32, 1), (33, 1), (34, 1), (35, 1), (36, 1), (37, 1)] := by kernel_rfl
theorem Tryz.sz47 : szOf Tryz.prog 47 = some 38 := by kernel_rfl
theorem Tryz.zr47 : zeroOf Tryz.prog 47 = some (.agg #[.int .u8 0, .int .u8 0, .int .u8 0, .int .u8 0, .int .u8 0, .int .u8 0, .int .u8 0, .int .u8 0, .int .u8 0, .int .u8 0, .int .u8 0, .int .u8 0, .int .u8 0, .int .u8 0, .int .u8 0, .int .u8 0, .int .u8 0, .int .u8 0, .int .u8 0, .int .u8 0, .int .u8 0, .int .u8 0, .int .u8 0, .int .u8 0, .int .u8 0, .int .u8 0, .int .u8 0, .int .u8 0, .int .u8 0, .int .u8 0, .int .u8 0, .int .u8 0, .slice none 0 0, .string ⟨#[]⟩, .int .i64 0, .bool false, .string ⟨#[]⟩, .int .i64 0]) := by kernel_rfl
theorem Tryz.by47 : byOf Tryz.prog 47 = some (.agg #[.int .u8 0, .int .u8 0, .int .u8 0, .int .u8 0, .int .u8 0, .int .u8 0, .int .u8 0, .int .u8 0, .int .u8 0, .int .u8 0, .int .u8 0, .int .u8 0, .int .u8 0, .int .u8 0, .int .u8 0, .int .u8 0, .int .u8 0, .int .u8 0, .int .u8 0, .int .u8 0, .int .u8 0, .int .u8 0, .int .u8 0, .int .u8 0, .int .u8 0, .int .u8 0, .int .u8 0, .int .u8 0, .int .u8 0, .int .u8 0, .int .u8 0, .int .u8 0, .slice none 0 0, .string ⟨#[]⟩, .int .i64 0, .bool false, .string ⟨#[]⟩, .int .i64 0], 38, 112) := by kernel_rfl
theorem Tryz.ql47 : plOf Tryz.prog 47 = some [(0, 32), (32, 1), (33, 1), (34, 1), (35, 1), (36, 1), (37, 1)] := by kernel_rfl
theorem Tryz.pl47 : (match Program.underlying Tryz.prog 47 with | some (.struct fs) => placesOf Tryz.prog fs.toList | _ => none) = some [(0, 32), (32, 1), (33, 1), (34, 1), (35, 1), (36, 1), (37, 1)] := by kernel_rfl
theorem Tryz.sz48 : szOf Tryz.prog 48 = some 1 := by kernel_rfl
theorem Tryz.zr48 : zeroOf Tryz.prog 48 = some (.nilFunc) := by kernel_rfl
theorem Tryz.by48 : byOf Tryz.prog 48 = some (.nilFunc, 1, 8) := by kernel_rfl
theorem Tryz.sz49 : szOf Tryz.prog 49 = some 36 := by kernel_rfl
theorem Tryz.zr49 : zeroOf Tryz.prog 49 = some (.agg #[.int .u8 0, .int .u8 0, .int .u8 0, .int .u8 0, .int .u8 0, .int .u8 0, .int .u8 0, .int .u8 0, .int .u8 0, .int .u8 0, .int .u8 0, .int .u8 0, .int .u8 0, .int .u8 0, .int .u8 0, .int .u8 0, .int .u8 0, .int .u8 0, .int .u8 0, .int .u8 0, .int .u8 0, .int .u8 0, .int .u8 0, .int .u8 0, .int .u8 0, .int .u8 0, .int .u8 0, .int .u8 0, .int .u8 0, .int .u8 0, .int .u8 0, .int .u8 0, .int .i64 0, .int .i64 0, .int .i64 0, .bool false]) := by kernel_rfl
theorem Tryz.by49 : byOf Tryz.prog 49 = some (.agg #[.int .u8 0, .int .u8 0, .int .u8 0, .int .u8 0, .int .u8 0, .int .u8 0, .int .u8 0, .int .u8 0, .int .u8 0, .int .u8 0, .int .u8 0, .int .u8 0, .int .u8 0, .int .u8 0, .int .u8 0, .int .u8 0, .int .u8 0, .int .u8 0, .int .u8 0, .int .u8 0, .int .u8 0, .int .u8 0, .int .u8 0, .int .u8 0, .int .u8 0, .int .u8 0, .int .u8 0, .int .u8 0, .int .u8 0, .int .u8 0, .int .u8 0, .int .u8 0, .int .i64 0, .int .i64 0, .int .i64 0, .bool false], 36, 64) := by kernel_rfl
theorem Tryz.ql49 : plOf Tryz.prog 49 = some [(0, 32), (32, 1), (33, 1), (34, 1), (35, 1)] := by kernel_rfl
theorem Tryz.pl49 : (match Program.underlying Tryz.prog 49 with | some (.struct fs) => placesOf Tryz.prog fs.toList | _ => none) = some [(0, 32), (32, 1), (33, 1), (34, 1), (35, 1)] := by kernel_rfl
theorem Tryz.sz50 : szOf Tryz.prog 50 = some 36 := by kernel_rfl
theorem Tryz.zr50 : zeroOf Tryz.prog 50 = some (.agg #[.int .u8 0, .int .u8 0, .int .u8 0, .int .u8 0, .int .u8 0, .int .u8 0, .int .u8 0, .int .u8 0, .int .u8 0, .int .u8 0, .int .u8 0, .int .u8 0, .int .u8 0, .int .u8 0, .int .u8 0, .int .u8 0, .int .u8 0, .int .u8 0, .int .u8 0, .int .u8 0, .int .u8 0, .int .u8 0, .int .u8 0, .int .u8 0, .int .u8 0, .int .u8 0, .int .u8 0, .int .u8 0, .int .u8 0, .int .u8 0, .int .u8 0, .int .u8 0, .int .i64 0, .int .i64 0, .int .i64 0, .bool false]) := by kernel_rfl
theorem Tryz.by50 : byOf Tryz.prog 50 = some (.agg #[.int .u8 0, .int .u8 0, .int .u8 0, .int .u8 0, .int .u8 0, .int .u8 0, .int .u8 0, .int .u8 0, .int .u8 0, .int .u8 0, .int .u8 0, .int .u8 0, .int .u8 0, .int .u8 0, .int .u8 0, .int .u8 0, .int .u8 0, .int .u8 0, .int .u8 0, .int .u8 0, .int .u8 0, .int .u8 0, .int .u8 0, .int .u8 0, .int .u8 0, .int .u8 0, .int .u8 0, .int .u8 0, .int .u8 0, .int .u8 0, .int .u8 0, .int .u8 0, .int .i64 0, .int .i64 0, .int .i64 0, .bool false], 36, 64) := by kernel_rfl
theorem Tryz.ql50 : plOf Tryz.prog 50 = some [(0, 32), (32, 1), (33, 1), (34, 1), (35, 1)] := by kernel_rfl
theorem Tryz.pl50 : (match Program.underlying Tryz.prog 50 with | some (.struct fs) => placesOf Tryz.prog fs.toList | _ => none) = some [(0, 32), (32, 1), (33, 1), (34, 1), (35, 1)] := by kernel_rfl
theorem Tryz.sz52 : szOf Tryz.prog 52 = some 1 := by kernel_rfl
theorem Tryz.zr52 : zeroOf Tryz.prog 52 = some (.nilFunc) := by kernel_rfl
theorem Tryz.by52 : byOf Tryz.prog 52 = some (.nilFunc, 1, 8) := by kernel_rfl
theorem Tryz.sz53 : szOf Tryz.prog 53 = some 1 := by kernel_rfl
theorem Tryz.zr53 : zeroOf Tryz.prog 53 = some (.nilFunc) := by kernel_rfl
theorem Tryz.by53 : byOf Tryz.prog 53 = some (.nilFunc, 1, 8) := by kernel_rfl
theorem Tryz.sz54 : szOf Tryz.prog 54 = some 1 := by kernel_rfl
theorem Tryz.zr54 : zeroOf Tryz.prog 54 = some (.nilFunc) := by kernel_rfl
theorem Tryz.by54 : byOf Tryz.prog 54 = some (.nilFunc, 1, 8) := by kernel_rfl
theorem Tryz.sz55 : szOf Tryz.prog 55 = some 1 := by kernel_rfl
theorem Tryz.zr55 : zeroOf Tryz.prog 55 = some (.slice none 0 0) := by kernel_rfl
theorem Tryz.by55 : byOf Tryz.prog 55 = some (.slice none 0 0, 1, 24) := by kernel_rfl
theorem Tryz.sz56 : szOf Tryz.prog 56 = some 1 := by kernel_rfl
theorem Tryz.zr56 : zeroOf Tryz.prog 56 = some (.nilFunc) := by kernel_rfl
theorem Tryz.by56 : byOf Tryz.prog 56 = some (.nilFunc, 1, 8) := by kernel_rfl
theorem Tryz.sz57 : szOf Tryz.prog 57 = some 1 := by kernel_rfl
theorem Tryz.zr57 : zeroOf Tryz.prog 57 = some (.nilFunc) := by kernel_rfl
theorem Tryz.by57 : byOf Tryz.prog 57 = some (.nilFunc, 1, 8) := by kernel_rfl
theorem Tryz.sz58 : szOf Tryz.prog 58 = some 1 := by kernel_rfl
theorem Tryz.zr58 : zeroOf Tryz.prog 58 = some (.nilFunc) := by kernel_rfl
theorem Tryz.by58 : byOf Tryz.prog 58 = some (.nilFunc, 1, 8) := by kernel_rfl
theorem Tryz.sz59 : szOf Tryz.prog 59 = some 1 := by kernel_rfl
theorem Tryz.zr59 : zeroOf Tryz.prog 59 = some (.nilFunc) := by kernel_rfl
theorem Tryz.by59 : byOf Tryz.prog 59 = some (.nilFunc, 1, 8) := by kernel_rfl
theorem Tryz.sz60 : szOf Tryz.prog 60 = some 1 := by kernel_rfl
theorem Tryz.zr60 : zeroOf Tryz.prog 60 = some (.nilFunc) := by kernel_rfl
theorem Tryz.by60 : byOf Tryz.prog 60 = some (.nilFunc, 1, 8) := by kernel_rfl
theorem Tryz.sz61 : szOf Tryz.prog 61 = some 1 := by kernel_rfl
theorem Tryz.zr61 : zeroOf Tryz.prog 61 = some (.nilFunc) := by kernel_rfl
theorem Tryz.by61 : byOf Tryz.prog 61 = some (.nilFunc, 1, 8) := by kernel_rfl
theorem Tryz.sz62 : szOf Tryz.prog 62 = some 1 := by kernel_rfl
theorem Tryz.zr62 : zeroOf Tryz.prog 62 = some (.nilFunc) := by kernel_rfl
theorem Tryz.by62 : byOf Tryz.prog 62 = some (.nilFunc, 1, 8) := by kernel_rfl
theorem Tryz.sz63 : szOf Tryz.prog 63 = some 1 := by kernel_rfl
theorem Tryz.zr63 : zeroOf Tryz.prog 63 = some (.nilFunc) := by kernel_rfl
theorem Tryz.by63 : byOf Tryz.prog 63 = some (.nilFunc, 1, 8) := by kernel_rfl
theorem Tryz.sz64 : szOf Tryz.prog 64 = some 1 := by kernel_rfl
theorem Tryz.zr64 : zeroOf Tryz.prog 64 = some (.nilFunc) := by kernel_rfl
theorem Tryz.by64 : byOf Tryz.prog 64 = some (.nilFunc, 1, 8) := by kernel_rfl
theorem Tryz.sz65 : szOf Tryz.prog 65 = some 1 := by kernel_rfl
theorem Tryz.zr65 : zeroOf Tryz.prog 65 = some (.nilFunc) := by kernel_rfl
theorem Tryz.by65 : byOf Tryz.prog 65 = some (.nilFunc, 1, 8) := by kernel_rfl
theorem Tryz.sz66 : szOf Tryz.prog 66 = some 1 := by kernel_rfl
theorem Tryz.zr66 : zeroOf Tryz.prog 66 = some (.nilFunc) := by kernel_rfl
theorem Tryz.by66 : byOf Tryz.prog 66 = some (.nilFunc, 1, 8) := by kernel_rfl
theorem Tryz.sz67 : szOf Tryz.prog 67 = some 1 := by kernel_rfl
theorem Tryz.zr67 : zeroOf Tryz.prog 67 = some (.pointer none) := by kernel_rfl
theorem Tryz.by67 : byOf Tryz.prog 67 = some (.pointer none, 1, 8) := by kernel_rfl
theorem Tryz.sz69 : szOf Tryz.prog 69 = some 1 := by kernel_rfl
theorem Tryz.zr69 : zeroOf Tryz.prog 69 = some (.nilFunc) := by kernel_rfl
theorem Tryz.by69 : byOf Tryz.prog 69 = some (.nilFunc, 1, 8) := by kernel_rfl
theorem Tryz.sz70 : szOf Tryz.prog 70 = some 1 := by kernel_rfl
theorem Tryz.zr70 : zeroOf Tryz.prog 70 = some (.nilFunc) := by kernel_rfl
theorem Tryz.by70 : byOf Tryz.prog 70 = some (.nilFunc, 1, 8) := by kernel_rfl
theorem Tryz.sz71 : szOf Tryz.prog 71 = some 1 := by kernel_rfl
theorem Tryz.zr71 : zeroOf Tryz.prog 71 = some (.nilFunc) := by kernel_rfl
theorem Tryz.by71 : byOf Tryz.prog 71 = some (.nilFunc, 1, 8) := by kernel_rfl
theorem Tryz.sz72 : szOf Tryz.prog 72 = some 1 := by kernel_rfl
theorem Tryz.zr72 : zeroOf Tryz.prog 72 = some (.nilFunc) := by kernel_rfl
theorem Tryz.by72 : byOf Tryz.prog 72 = some (.nilFunc, 1, 8) := by kernel_rfl
theorem Tryz.sz73 : szOf Tryz.prog 73 = some 1 := by kernel_rfl
theorem Tryz.zr73 : zeroOf Tryz.prog 73 = some (.nilFunc) := by kernel_rfl
theorem Tryz.by73 : byOf Tryz.prog 73 = some (.nilFunc, 1, 8) := by kernel_rfl
theorem Tryz.sz74 : szOf Tryz.prog 74 = some 6 := by kernel_rfl
theorem Tryz.zr74 : zeroOf Tryz.prog 74 = some (.agg #[.string ⟨#[]⟩, .string ⟨#[]⟩, .int .i64 0, .int .i64 0, .slice none 0 0, .pointer none]) := by kernel_rfl
theorem Tryz.by74 : byOf Tryz.prog 74 = some (.agg #[.string ⟨#[]⟩, .string ⟨#[]⟩, .int .i64 0, .int .i64 0, .slice none 0 0, .pointer none], 6, 80) := by kernel_rfl
theorem Tryz.ql74 : plOf Tryz.prog 74 = some [(0, 5), (5, 1)] := by kernel_rfl
theorem Tryz.pl74 : (match Program.underlying Tryz.prog 74 with | some (.struct fs) => placesOf Tryz.prog fs.toList | _ => none) = some [(0, 5), (5, 1)] := by kernel_rfl
theorem Tryz.sz75 : szOf Tryz.prog 75 = some 6 := by kernel_rfl
theorem Tryz.zr75 : zeroOf Tryz.prog 75 = some (.agg #[.string ⟨#[]⟩, .string ⟨#[]⟩, .int .i64 0, .int .i64 0, .slice none 0 0, .pointer none]) := by kernel_rfl
theorem Tryz.by75 : byOf Tryz.prog 75 = some (.agg #[.string ⟨#[]⟩, .string ⟨#[]⟩, .int .i64 0, .int .i64 0, .slice none 0 0, .pointer none], 6, 80) := by kernel_rfl
theorem Tryz.ql75 : plOf Tryz.prog 75 = some [(0, 5), (5, 1)] := by kernel_rfl
theorem Tryz.pl75 : (match Program.underlying Tryz.prog 75 with | some (.struct fs) => placesOf Tryz.prog fs.toList | _ => none) = some [(0, 5), (5, 1)] := by kernel_rfl
theorem Tryz.sz76 : szOf Tryz.prog 76 = some 1 := by kernel_rfl
theorem Tryz.zr76 : zeroOf Tryz.prog 76 = some (.nilFunc) := by kernel_rfl
theorem Tryz.by76 : byOf Tryz.prog 76 = some (.nilFunc, 1, 8) := by kernel_rfl
theorem Tryz.sz77 : szOf Tryz.prog 77 = some 1 := by kernel_rfl
theorem Tryz.zr77 : zeroOf Tryz.prog 77 = some (.slice none 0 0) := by kernel_rfl
theorem Tryz.by77 : byOf Tryz.prog 77 = some (.slice none 0 0, 1, 24) := by kernel_rfl
theorem Tryz.sz78 : szOf Tryz.prog 78 = some 5 := by kernel_rfl
theorem Tryz.zr78 : zeroOf Tryz.prog 78 = some (.agg #[.int .i64 0, .int .i64 0, .bool false, .slice none 0 0, .map none]) := by kernel_rfl
theorem Tryz.by78 : byOf Tryz.prog 78 = some (.agg #[.int .i64 0, .int .i64 0, .bool false, .slice none 0 0, .map none], 5, 56) := by kernel_rfl
theorem Tryz.ql78 : plOf Tryz.prog 78 = some [(0, 1), (1, 1), (2, 1), (3, 1), (4, 1)] := by kernel_rfl
theorem Tryz.pl78 : (match Program.underlying Tryz.prog 78 with | some (.struct fs) => placesOf Tryz.prog fs.toList | _ => none) = some [(0, 1), (1, 1), (2, 1), (3, 1), (4, 1)] := by kernel_rfl
theorem Tryz.sz79 : szOf Tryz.prog 79 = some 5 := by kernel_rfl
theorem Tryz.zr79 : zeroOf Tryz.prog 79 = some (.agg #[.int .i64 0, .int .i64 0, .bool false, .slice none 0 0, .map none]) := by kernel_rfl
theorem Tryz.by79 : byOf Tryz.prog 79 = some (.agg #[.int .i64 0, .int .i64 0, .bool false, .slice none 0 0, .map none], 5, 56) := by kernel_rfl
theorem Tryz.ql79 : plOf Tryz.prog 79 = some [(0, 1), (1, 1), (2, 1), (3, 1), (4, 1)] := by kernel_rfl
theorem Tryz.pl79 : (match Program.underlying Tryz.prog 79 with | some (.struct fs) => placesOf Tryz.prog fs.toList | _ => none) = some [(0, 1), (1, 1), (2, 1), (3, 1), (4, 1)] := by kernel_rfl
theorem Tryz.sz80 : szOf Tryz.prog 80 = some 1 := by kernel_rfl
theorem Tryz.zr80 : zeroOf Tryz.prog 80 = some (.map none) := by kernel_rfl
theorem Tryz.by80 : byOf Tryz.prog 80 = some (.map none, 1, 8) := by kernel_rfl
theorem Tryz.sz81 : szOf Tryz.prog 81 = some 2 := by kernel_rfl
theorem Tryz.zr81 : zeroOf Tryz.prog 81 = some (.agg #[.map none, .int .i64 0]) := by kernel_rfl
theorem Tryz.by81 : byOf Tryz.prog 81 = some (.agg #[.map none, .int .i64 0], 2, 16) := by kernel_rfl
theorem Tryz.ql81 : plOf Tryz.prog 81 = some [(0, 1), (1, 1)] := by kernel_rfl
theorem Tryz.pl81 : (match Program.underlying Tryz.prog 81 with | some (.struct fs) => placesOf Tryz.prog fs.toList | _ => none) = some [(0, 1), (1, 1)] := by kernel_rfl
theorem Tryz.sz82 : szOf Tryz.prog 82 = some 2 := by kernel_rfl
theorem Tryz.zr82 : zeroOf Tryz.prog 82 = some (.agg #[.map none, .int .i64 0]) := by kernel_rfl
theorem Tryz.by82 : byOf Tryz.prog 82 = some (.agg #[.map none, .int .i64 0], 2, 16) := by kernel_rfl
theorem Tryz.ql82 : plOf Tryz.prog 82 = some [(0, 1), (1, 1)] := by kernel_rfl
theorem Tryz.pl82 : (match Program.underlying Tryz.prog 82 with | some (.struct fs) => placesOf Tryz.prog fs.toList | _ => none) = some [(0, 1), (1, 1)] := by kernel_rfl
theorem Tryz.sz84 : szOf Tryz.prog 84 = some 1 := by kernel_rfl
theorem Tryz.zr84 : zeroOf Tryz.prog 84 = some (.nilFunc) := by kernel_rfl
theorem Tryz.by84 : byOf Tryz.prog 84 = some (.nilFunc, 1, 8) := by kernel_rfl
theorem Tryz.sz85 : szOf Tryz.prog 85 = some 34 := by kernel_rfl
theorem Tryz.zr85 : zeroOf Tryz.prog 85 = some (.agg #[.int .u8 0, .int .u8 0, .int .u8 0, .int .u8 0, .int .u8 0, .int .u8 0, .int .u8 0, .int .u8 0, .int .u8 0, .int .u8 0, .int .u8 0, .int .u8 0, .int .u8 0, .int .u8 0, .int .u8 0, .int .u8 0, .int .u8 0, .int .u8 0, .int .u8 0, .int .u8 0, .int .u8 0, .int .u8 0, .int .u8 0, .int .u8 0, .int .u8 0, .int .u8 0, .int .u8 0, .int .u8 0, .int .u8 0, .int .u8 0, .int .u8 0, .int .u8 0, .int .i64 0, .int .i64 0]) := by kernel_rfl
theorem Tryz.by85 : byOf Tryz.prog 85 = some (.agg #[.int .u8 0, .int .u8 0, .int .u8 0, .int .u8 0, .int .u8 0, .int .u8 0, .int .u8 0, .int .u8 0, .int .u8 0, .int .u8 0, .int .u8 0, .int .u8 0, .int .u8 0, .int .u8 0, .int .u8 0, .int .u8 0, .int .u8 0, .int .u8 0, .int .u8 0, .int .u8 0, .int .u8 0, .int .u8 0, .int .u8 0, .int .u8 0, .int .u8 0, .int .u8 0, .int .u8 0, .int .u8 0, .int .u8 0, .int .u8 0, .int .u8 0, .int .u8 0, .int .i64 0, .int .i64 0], 34, 48) := by kernel_rfl
theorem Tryz.ql85 : plOf Tryz.prog 85 = some [(0, 32), (32, 1), (33, 1)] := by kernel_rfl
theorem Tryz.pl85 : (match Program.underlying Tryz.prog 85 with | some (.struct fs) => placesOf Tryz.prog fs.toList | _ => none) = some [(0, 32), (32, 1), (33, 1)] := by kernel_rfl
theorem Tryz.sz86 : szOf Tryz.prog 86 = some 34 := by kernel_rfl
theorem Tryz.zr86 : zeroOf Tryz.prog 86 = some (.agg #[.int .u8 0, .int .u8 0, .int .u8 0, .int .u8 0, .int .u8 0, .int .u8 0, .int .u8 0, .int .u8 0, .int .u8 0, .int .u8 0, .int .u8 0, .int .u8 0, .int .u8 0, .int .u8 0, .int .u8 0, .int .u8 0, .int .u8 0, .int .u8 0, .int .u8 0, .int .u8 0, .int .u8 0, .int .u8 0, .int .u8 0, .int .u8 0, .int .u8 0, .int .u8 0, .int .u8 0, .int .u8 0, .int .u8 0, .int .u8 0, .int .u8 0, .int .u8 0, .int .i64 0, .int .i64 0]) := by kernel_rfl
theorem Tryz.by86 : byOf Tryz.prog 86 = some (.agg #[.int .u8 0, .int .u8 0, .int .u8 0, .int .u8 0, .int .u8 0, .int .u8 0, .int .u8 0, .int .u8 0, .int .u8 0, .int .u8 0, .int .u8 0, .int .u8 0, .int .u8 0, .int .u8 0, .int .u8 0, .int .u8 0, .int .u8 0, .int .u8 0, .int .u8 0, .int .u8 0, .int .u8 0, .int .u8 0, .int .u8 0, .int .u8 0, .int .u8 0, .int .u8 0, .int .u8 0, .int .u8 0, .int .u8 0, .int .u8 0, .int .u8 0, .int .u8 0, .int .i64 0, .int .i64 0], 34, 48) := by kernel_rfl
theorem Tryz.ql86 : plOf Tryz.prog 86 = some [(0, 32), (32, 1), (33, 1)] := by kernel_rfl
theorem Tryz.pl86 : (match Program.underlying Tryz.prog 86 with | some (.struct fs) => placesOf Tryz.prog fs.toList | _ => none) = some [(0, 32), (32, 1), (33, 1)] := by kernel_rfl
theorem Tryz.sz87 : szOf Tryz.prog 87 = some 1 := by kernel_rfl
theorem Tryz.zr87 : zeroOf Tryz.prog 87 = some (.nilFunc) := by kernel_rfl
theorem Tryz.by87 : byOf Tryz.prog 87 = some (.nilFunc, 1, 8) := by kernel_rfl
theorem Tryz.sz88 : szOf Tryz.prog 88 = some 1 := by kernel_rfl
theorem Tryz.zr88 : zeroOf Tryz.prog 88 = some (.slice none 0 0) := by kernel_rfl
theorem Tryz.by88 : byOf Tryz.prog 88 = some (.slice none 0 0, 1, 24) := by kernel_rfl
theorem Tryz.sz89 : szOf Tryz.prog 89 = some 1 := by kernel_rfl
theorem Tryz.zr89 : zeroOf Tryz.prog 89 = some (.nilFunc) := by kernel_rfl
theorem Tryz.by89 : byOf Tryz.prog 89 = some (.nilFunc, 1, 8) := by kernel_rfl
theorem Tryz.sz90 : szOf Tryz.prog 90 = some 1 := by kernel_rfl
theorem Tryz.zr90 : zeroOf Tryz.prog 90 = some (.nilFunc) := by kernel_rfl
theorem Tryz.by90 : byOf Tryz.prog 90 = some (.nilFunc, 1, 8) := by kernel_rfl
theorem Tryz.sz91 : szOf Tryz.prog 91 = some 1 := by kernel_rfl
theorem Tryz.zr91 : zeroOf Tryz.prog 91 = some (.nilFunc) := by kernel_rfl
theorem Tryz.by91 : byOf Tryz.prog 91 = some (.nilFunc, 1, 8) := by kernel_rfl
theorem Tryz.sz92 : szOf Tryz.prog 92 = some 1 := by kernel_rfl
theorem Tryz.zr92 : zeroOf Tryz.prog 92 = some (.slice none 0 0) := by kernel_rfl
theorem Tryz.by92 : byOf Tryz.prog 92 = some (.slice none 0 0, 1, 24) := by kernel_rfl
theorem Tryz.sz93 : szOf Tryz.prog 93 = some 1 := by kernel_rfl
theorem Tryz.zr93 : zeroOf Tryz.prog 93 = some (.nilFunc) := by kernel_rfl
theorem Tryz.by93 : byOf Tryz.prog 93 = some (.nilFunc, 1, 8) := by kernel_rfl
theorem Tryz.sz94 : szOf Tryz.prog 94 = some 1 := by kernel_rfl
theorem Tryz.zr94 : zeroOf Tryz.prog 94 = some (.slice none 0 0) := by kernel_rfl
theorem Tryz.by94 : byOf Tryz.prog 94 = some (.slice none 0 0, 1, 24) := by kernel_rfl
theorem Tryz.sz95 : szOf Tryz.prog 95 = some 2 := by kernel_rfl
theorem Tryz.zr95 : zeroOf Tryz.prog 95 = some (.agg #[.string ⟨#[]⟩, .slice none 0 0]) := by kernel_rfl
theorem Tryz.by95 : byOf Tryz.prog 95 = some (.agg #[.string ⟨#[]⟩, .slice none 0 0], 2, 40) := by kernel_rfl
theorem Tryz.ql95 : plOf Tryz.prog 95 = some [(0, 1), (1, 1)] := by kernel_rfl
theorem Tryz.pl95 : (match Program.underlying Tryz.prog 95 with | some (.struct fs) => placesOf Tryz.prog fs.toList | _ => none) = some [(0, 1), (1, 1)] := by kernel_rfl
theorem Tryz.sz96 : szOf Tryz.prog 96 = some 2 := by kernel_rfl
theorem Tryz.zr96 : zeroOf Tryz.prog 96 = some (.agg #[.string ⟨#[]⟩, .slice none 0 0]) := by kernel_rfl
theorem Tryz.by96 : byOf Tryz.prog 96 = some (.agg #[.string ⟨#[]⟩, .slice none 0 0], 2, 40) := by kernel_rfl
theorem Tryz.ql96 : plOf Tryz.prog 96 = some [(0, 1), (1, 1)] := by kernel_rfl
theorem Tryz.pl96 : (match Program.underlying Tryz.prog 96 with | some (.struct fs) => placesOf Tryz.prog fs.toList | _ => none) = some [(0, 1), (1, 1)] := by kernel_rfl
theorem Tryz.sz97 : szOf Tryz.prog 97 = some 1 := by kernel_rfl
theorem Tryz.zr97 : zeroOf Tryz.prog 97 = some (.nilFunc) := by kernel_rfl
theorem Tryz.by97 : byOf Tryz.prog 97 = some (.nilFunc, 1, 8) := by kernel_rfl
theorem Tryz.sz98 : szOf Tryz.prog 98 = some 1 := by kernel_rfl
theorem Tryz.zr98 : zeroOf Tryz.prog 98 = some (.pointer none) := by kernel_rfl
theorem Tryz.by98 : byOf Tryz.prog 98 = some (.pointer none, 1, 8) := by kernel_rfl
theorem Tryz.sz99 : szOf Tryz.prog 99 = some 2 := by kernel_rfl
theorem Tryz.zr99 : zeroOf Tryz.prog 99 = some (.agg #[.pointer none, .int .i64 0]) := by kernel_rfl
theorem Tryz.by99 : byOf Tryz.prog 99 = some (.agg #[.pointer none, .int .i64 0], 2, 16) := by kernel_rfl
theorem Tryz.ql99 : plOf Tryz.prog 99 = some [(0, 1), (1, 1)] := by kernel_rfl
theorem Tryz.pl99 : (match Program.underlying Tryz.prog 99 with | some (.struct fs) => placesOf Tryz.prog fs.toList | _ => none) = some [(0, 1), (1, 1)] := by kernel_rfl
theorem Tryz.sz100 : szOf Tryz.prog 100 = some 2 := by kernel_rfl
theorem Tryz.zr100 : zeroOf Tryz.prog 100 = some (.agg #[.pointer none, .int .i64 0]) := by kernel_rfl
theorem Tryz.by100 : byOf Tryz.prog 100 = some (.agg #[.pointer none, .int .i64 0], 2, 16) := by kernel_rfl
theorem Tryz.ql100 : plOf Tryz.prog 100 = some [(0, 1), (1, 1)] := by kernel_rfl
theorem Tryz.pl100 : (match Program.underlying Tryz.prog 100 with | some (.struct fs) => placesOf Tryz.prog fs.toList | _ => none) = some [(0, 1), (1, 1)] := by kernel_rfl
theorem Tryz.sz101 : szOf Tryz.prog 101 = some 1 := by kernel_rfl
theorem Tryz.zr101 : zeroOf Tryz.prog 101 = some (.nilFunc) := by kernel_rfl
theorem Tryz.by101 : byOf Tryz.prog 101 = some (.nilFunc, 1, 8) := by kernel_rfl
theorem Tryz.sz103 : szOf Tryz.prog 103 = some 1 := by kernel_rfl
theorem Tryz.zr103 : zeroOf Tryz.prog 103 = some (.nilFunc) := by kernel_rfl
theorem Tryz.by103 : byOf Tryz.prog 103 = some (.nilFunc, 1, 8) := by kernel_rfl
theorem Tryz.sz104 : szOf Tryz.prog 104 = some 1 := by kernel_rfl
theorem Tryz.zr104 : zeroOf Tryz.prog 104 = some (.nilFunc) := by kernel_rfl
theorem Tryz.by104 : byOf Tryz.prog 104 = some (.nilFunc, 1, 8) := by kernel_rfl
theorem Tryz.sz105 : szOf Tryz.prog 105 = some 1 := by kernel_rfl
theorem Tryz.zr105 : zeroOf Tryz.prog 105 = some (.nilFunc) := by kernel_rfl
theorem Tryz.by105 : byOf Tryz.prog 105 = some (.nilFunc, 1, 8) := by kernel_rfl
theorem Tryz.sz106 : szOf Tryz.prog 106 = some 1 := by kernel_rfl
theorem Tryz.zr106 : zeroOf Tryz.prog 106 = some (.nilFunc) := by kernel_rfl
theorem Tryz.by106 : byOf Tryz.prog 106 = some (.nilFunc, 1, 8) := by kernel_rfl
theorem Tryz.sz108 : szOf Tryz.prog 108 = some 1 := by kernel_rfl
theorem Tryz.zr108 : zeroOf Tryz.prog 108 = some (.nilFunc) := by kernel_rfl
theorem Tryz.by108 : byOf Tryz.prog 108 = some (.nilFunc, 1, 8) := by kernel_rfl
theorem Tryz.sz109 : szOf Tryz.prog 109 = some 1 := by kernel_rfl
theorem Tryz.zr109 : zeroOf Tryz.prog 109 = some (.nilFunc) := by kernel_rfl
theorem Tryz.by109 : byOf Tryz.prog 109 = some (.nilFunc, 1, 8) := by kernel_rfl
theorem Tryz.sz110 : szOf Tryz.prog 110 = some 1 := by kernel_rfl
theorem Tryz.zr110 : zeroOf Tryz.prog 110 = some (.nilFunc) := by kernel_rfl
theorem Tryz.by110 : byOf Tryz.prog 110 = some (.nilFunc, 1, 8) := by kernel_rfl
theorem Tryz.sz111 : szOf Tryz.prog 111 = some 1 := by kernel_rfl
theorem Tryz.zr111 : zeroOf Tryz.prog 111 = some (.nilFunc) := by kernel_rfl
theorem Tryz.by111 : byOf Tryz.prog 111 = some (.nilFunc, 1, 8) := by kernel_rfl
theorem Tryz.sz112 : szOf Tryz.prog 112 = some 1 := by kernel_rfl
theorem Tryz.zr112 : zeroOf Tryz.prog 112 = some (.nilFunc) := by kernel_rfl
theorem Tryz.by112 : byOf Tryz.prog 112 = some (.nilFunc, 1, 8) := by kernel_rfl
theorem Tryz.sz113 : szOf Tryz.prog 113 = some 1 := by kernel_rfl
theorem Tryz.zr113 : zeroOf Tryz.prog 113 = some (.nilFunc) := by kernel_rfl
theorem Tryz.by113 : byOf Tryz.prog 113 = some (.nilFunc, 1, 8) := by kernel_rfl
theorem Tryz.sz114 : szOf Tryz.prog 114 = some 1 := by kernel_rfl
theorem Tryz.zr114 : zeroOf Tryz.prog 114 = some (.nilFunc) := by kernel_rfl
theorem Tryz.by114 : byOf Tryz.prog 114 = some (.nilFunc, 1, 8) := by kernel_rfl
theorem Tryz.sz115 : szOf Tryz.prog 115 = some 1 := by kernel_rfl
theorem Tryz.zr115 : zeroOf Tryz.prog 115 = some (.nilFunc) := by kernel_rfl
theorem Tryz.by115 : byOf Tryz.prog 115 = some (.nilFunc, 1, 8) := by kernel_rfl
theorem Tryz.sz116 : szOf Tryz.prog 116 = some 1 := by kernel_rfl
theorem Tryz.zr116 : zeroOf Tryz.prog 116 = some (.slice none 0 0) := by kernel_rfl
theorem Tryz.by116 : byOf Tryz.prog 116 = some (.slice none 0 0, 1, 24) := by kernel_rfl
theorem Tryz.sz117 : szOf Tryz.prog 117 = some 2 := by kernel_rfl
theorem Tryz.zr117 : zeroOf Tryz.prog 117 = some (.agg #[.string ⟨#[]⟩, .slice none 0 0]) := by kernel_rfl
theorem Tryz.by117 : byOf Tryz.prog 117 = some (.agg #[.string ⟨#[]⟩, .slice none 0 0], 2, 40) := by kernel_rfl
theorem Tryz.ql117 : plOf Tryz.prog 117 = some [(0, 1), (1, 1)] := by kernel_rfl
theorem Tryz.pl117 : (match Program.underlying Tryz.prog 117 with | some (.struct fs) => placesOf Tryz.prog fs.toList | _ => none) = some [(0, 1), (1, 1)] := by kernel_rfl
theorem Tryz.sz118 : szOf Tryz.prog 118 = some 2 := by kernel_rfl
theorem Tryz.zr118 : zeroOf Tryz.prog 118 = some (.agg #[.string ⟨#[]⟩, .slice none 0 0]) := by kernel_rfl
theorem Tryz.by118 : byOf Tryz.prog 118 = some (.agg #[.string ⟨#[]⟩, .slice none 0 0], 2, 40) := by kernel_rfl
theorem Tryz.ql118 : plOf Tryz.prog 118 = some [(0, 1), (1, 1)] := by kernel_rfl
theorem Tryz.pl118 : (match Program.underlying Tryz.prog 118 with | some (.struct fs) => placesOf Tryz.prog fs.toList | _ => none) = some [(0, 1), (1, 1)] := by kernel_rfl
theorem Tryz.sz119 : szOf Tryz.prog 119 = some 0 := by kernel_rfl
theorem Tryz.zr119 : zeroOf Tryz.prog 119 = some (.agg #[]) := by kernel_rfl
theorem Tryz.by119 : byOf Tryz.prog 119 = some (.agg #[], 0, 0) := by kernel_rfl
theorem Tryz.ql119 : plOf Tryz.prog 119 = some [] := by kernel_rfl
theorem Tryz.pl119 : (match Program.underlying Tryz.prog 119 with | some (.struct fs) => placesOf Tryz.prog fs.toList | _ => none) = some [] := by kernel_rfl
theorem Tryz.sz120 : szOf Tryz.prog 120 = some 0 := by kernel_rfl
theorem Tryz.zr120 : zeroOf Tryz.prog 120 = some (.agg #[]) := by kernel_rfl
theorem Tryz.by120 : byOf Tryz.prog 120 = some (.agg #[], 0, 0) := by kernel_rfl
theorem Tryz.ql120 : plOf Tryz.prog 120 = some [] := by kernel_rfl
theorem Tryz.pl120 : (match Program.underlying Tryz.prog 120 with | some (.struct fs) => placesOf Tryz.prog fs.toList | _ => none) = some [] := by kernel_rfl
theorem Tryz.sz121 : szOf Tryz.prog 121 = some 0 := by kernel_rfl
theorem Tryz.zr121 : zeroOf Tryz.prog 121 = some (.agg #[]) := by kernel_rfl
theorem Tryz.by121 : byOf Tryz.prog 121 = some (.agg #[], 0, 0) := by kernel_rfl
theorem Tryz.ql121 : plOf Tryz.prog 121 = some [] := by kernel_rfl
theorem Tryz.pl121 : (match Program.underlying Tryz.prog 121 with | some (.struct fs) => placesOf Tryz.prog fs.toList | _ => none) = some [] := by kernel_rfl
theorem Tryz.sz122 : szOf Tryz.prog 122 = some 1 := by kernel_rfl
theorem Tryz.zr122 : zeroOf Tryz.prog 122 = some (.string ⟨#[]⟩) := by kernel_rfl
theorem Tryz.by122 : byOf Tryz.prog 122 = some (.string ⟨#[]⟩, 1, 16) := by kernel_rfl
theorem Tryz.sz124 : szOf Tryz.prog 124 = some 1 := by kernel_rfl
theorem Tryz.zr124 : zeroOf Tryz.prog 124 = some (.nilFunc) := by kernel_rfl
theorem Tryz.by124 : byOf Tryz.prog 124 = some (.nilFunc, 1, 8) := by kernel_rfl
theorem Tryz.sz125 : szOf Tryz.prog 125 = some 1 := by kernel_rfl
theorem Tryz.zr125 : zeroOf Tryz.prog 125 = some (.nilFunc) := by kernel_rfl
theorem Tryz.by125 : byOf Tryz.prog 125 = some (.nilFunc, 1, 8) := by kernel_rfl
theorem Tryz.sz126 : szOf Tryz.prog 126 = some 1 := by kernel_rfl
theorem Tryz.zr126 : zeroOf Tryz.prog 126 = some (.string ⟨#[]⟩) := by kernel_rfl
theorem Tryz.by126 : byOf Tryz.prog 126 = some (.string ⟨#[]⟩, 1, 16) := by kernel_rfl
theorem Tryz.sz127 : szOf Tryz.prog 127 = some 1 := by kernel_rfl
theorem Tryz.zr127 : zeroOf Tryz.prog 127 = some (.slice none 0 0) := by kernel_rfl
theorem Tryz.by127 : byOf Tryz.prog 127 = some (.slice none 0 0, 1, 24) := by kernel_rfl
theorem Tryz.sz128 : szOf Tryz.prog 128 = some 1 := by kernel_rfl
theorem Tryz.zr128 : zeroOf Tryz.prog 128 = some (.nilFunc) := by kernel_rfl
theorem Tryz.by128 : byOf Tryz.prog 128 = some (.nilFunc, 1, 8) := by kernel_rfl
theorem Tryz.sz129 : szOf Tryz.prog 129 = some 1 := by kernel_rfl
theorem Tryz.zr129 : zeroOf Tryz.prog 129 = some (.slice none 0 0) := by kernel_rfl
theorem Tryz.by129 : byOf Tryz.prog 129 = some (.slice none 0 0, 1, 24) := by kernel_rfl
theorem Tryz.sz130 : szOf Tryz.prog 130 = some 1 := by kernel_rfl
theorem Tryz.zr130 : zeroOf Tryz.prog 130 = some (.nilIface) := by kernel_rfl
theorem Tryz.by130 : byOf Tryz.prog 130 = some (.nilIface, 1, 16) := by kernel_rfl
theorem Tryz.sz131 : szOf Tryz.prog 131 = some 1 := by kernel_rfl
theorem Tryz.zr131 : zeroOf Tryz.prog 131 = some (.nilIface) := by kernel_rfl
theorem Tryz.by131 : byOf Tryz.prog 131 = some (.nilIface, 1, 16) := by kernel_rfl
theorem Tryz.sz132 : szOf Tryz.prog 132 = some 1 := by kernel_rfl
theorem Tryz.zr132 : zeroOf Tryz.prog 132 = some (.nilFunc) := by kernel_rfl
theorem Tryz.by132 : byOf Tryz.prog 132 = some (.nilFunc, 1, 8) := by kernel_rfl
theorem Tryz.sz133 : szOf Tryz.prog 133 = some 1 := by kernel_rfl
theorem Tryz.zr133 : zeroOf Tryz.prog 133 = some (.nilFunc) := by kernel_rfl
theorem Tryz.by133 : byOf Tryz.prog 133 = some (.nilFunc, 1, 8) := by kernel_rfl
theorem Tryz.sz134 : szOf Tryz.prog 134 = some 1 := by kernel_rfl
theorem Tryz.zr134 : zeroOf Tryz.prog 134 = some (.nilFunc) := by kernel_rfl
theorem Tryz.by134 : byOf Tryz.prog 134 = some (.nilFunc, 1, 8) := by kernel_rfl
theorem Tryz.sz135 : szOf Tryz.prog 135 = some 1 := by kernel_rfl
theorem Tryz.zr135 : zeroOf Tryz.prog 135 = some (.nilFunc) := by kernel_rfl
theorem Tryz.by135 : byOf Tryz.prog 135 = some (.nilFunc, 1, 8) := by kernel_rfl
theorem Tryz.sz136 : szOf Tryz.prog 136 = some 1 := by kernel_rfl
theorem Tryz.zr136 : zeroOf Tryz.prog 136 = some (.nilFunc) := by kernel_rfl
theorem Tryz.by136 : byOf Tryz.prog 136 = some (.nilFunc, 1, 8) := by kernel_rfl
theorem Tryz.sz137 : szOf Tryz.prog 137 = some 1 := by kernel_rfl
theorem Tryz.zr137 : zeroOf Tryz.prog 137 = some (.nilFunc) := by kernel_rfl
theorem Tryz.by137 : byOf Tryz.prog 137 = some (.nilFunc, 1, 8) := by kernel_rfl
theorem Tryz.sz138 : szOf Tryz.prog 138 = some 1 := by kernel_rfl
theorem Tryz.zr138 : zeroOf Tryz.prog 138 = some (.nilFunc) := by kernel_rfl
theorem Tryz.by138 : byOf Tryz.prog 138 = some (.nilFunc, 1, 8) := by kernel_rfl
theorem Tryz.sz139 : szOf Tryz.prog 139 = some 1 := by kernel_rfl
theorem Tryz.zr139 : zeroOf Tryz.prog 139 = some (.int .u64 0) := by kernel_rfl
theorem Tryz.by139 : byOf Tryz.prog 139 = some (.int .u64 0, 1, 8) := by kernel_rfl
theorem Tryz.sz140 : szOf Tryz.prog 140 = some 1 := by kernel_rfl
theorem Tryz.zr140 : zeroOf Tryz.prog 140 = some (.nilFunc) := by kernel_rfl
theorem Tryz.by140 : byOf Tryz.prog 140 = some (.nilFunc, 1, 8) := by kernel_rfl
theorem Tryz.sz141 : szOf Tryz.prog 141 = some 1 := by kernel_rfl
theorem Tryz.zr141 : zeroOf Tryz.prog 141 = some (.nilFunc) := by kernel_rfl
theorem Tryz.by141 : byOf Tryz.prog 141 = some (.nilFunc, 1, 8) := by kernel_rfl
theorem Tryz.sz142 : szOf Tryz.prog 142 = some 1 := by kernel_rfl
theorem Tryz.zr142 : zeroOf Tryz.prog 142 = some (.nilFunc) := by kernel_rfl
theorem Tryz.by142 : byOf Tryz.prog 142 = some (.nilFunc, 1, 8) := by kernel_rfl
theorem Tryz.sz144 : szOf Tryz.prog 144 = some 1 := by kernel_rfl
theorem Tryz.zr144 : zeroOf Tryz.prog 144 = some (.nilFunc) := by kernel_rfl
theorem Tryz.by144 : byOf Tryz.prog 144 = some (.nilFunc, 1, 8) := by kernel_rfl
theorem Tryz.sz145 : szOf Tryz.prog 145 = some 1 := by kernel_rfl
theorem Tryz.zr145 : zeroOf Tryz.prog 145 = some (.nilFunc) := by kernel_rfl
theorem Tryz.by145 : byOf Tryz.prog 145 = some (.nilFunc, 1, 8) := by kernel_rfl
theorem Tryz.sz147 : szOf Tryz.prog 147 = some 1 := by kernel_rfl
theorem Tryz.zr147 : zeroOf Tryz.prog 147 = some (.nilFunc) := by kernel_rfl
theorem Tryz.by147 : byOf Tryz.prog 147 = some (.nilFunc, 1, 8) := by kernel_rfl
theorem Tryz.sz148 : szOf Tryz.prog 148 = some 1 := by kernel_rfl
theorem Tryz.zr148 : zeroOf Tryz.prog 148 = some (.nilFunc) := by kernel_rfl
theorem Tryz.by148 : byOf Tryz.prog 148 = some (.nilFunc, 1, 8) := by kernel_rfl
theorem Tryz.sz149 : szOf Tryz.prog 149 = some 1 := by kernel_rfl
theorem Tryz.zr149 : zeroOf Tryz.prog 149 = some (.int .i64 0) := by kernel_rfl
theorem Tryz.by149 : byOf Tryz.prog 149 = some (.int .i64 0, 1, 8) := by kernel_rfl
theorem Tryz.sz151 : szOf Tryz.prog 151 = some 1 := by kernel_rfl
theorem Tryz.zr151 : zeroOf Tryz.prog 151 = some (.nilFunc) := by kernel_rfl
theorem Tryz.by151 : byOf Tryz.prog 151 = some (.nilFunc, 1, 8) := by kernel_rfl
theorem Tryz.sz152 : szOf Tryz.prog 152 = some 1 := by kernel_rfl
theorem Tryz.zr152 : zeroOf Tryz.prog 152 = some (.nilFunc) := by kernel_rfl
theorem Tryz.by152 : byOf Tryz.prog 152 = some (.nilFunc, 1, 8) := by kernel_rfl
theorem Tryz.sz153 : szOf Tryz.prog 153 = some 1 := by kernel_rfl
theorem Tryz.zr153 : zeroOf Tryz.prog 153 = some (.nilFunc) := by kernel_rfl
theorem Tryz.by153 : byOf Tryz.prog 153 = some (.nilFunc, 1, 8) := by kernel_rfl
theorem Tryz.sz154 : szOf Tryz.prog 154 = some 1 := by kernel_rfl
theorem Tryz.zr154 : zeroOf Tryz.prog 154 = some (.nilFunc) := by kernel_rfl
theorem Tryz.by154 : byOf Tryz.prog 154 = some (.nilFunc, 1, 8) := by kernel_rfl
theorem Tryz.sz155 : szOf Tryz.prog 155 = some 1 := by kernel_rfl
theorem Tryz.zr155 : zeroOf Tryz.prog 155 = some (.nilFunc) := by kernel_rfl
theorem Tryz.by155 : byOf Tryz.prog 155 = some (.nilFunc, 1, 8) := by kernel_rfl
theorem Tryz.sz156 : szOf Tryz.prog 156 = some 1 := by kernel_rfl
theorem Tryz.zr156 : zeroOf Tryz.prog 156 = some (.int .u32 0) := by kernel_rfl
theorem Tryz.by156 : byOf Tryz.prog 156 = some (.int .u32 0, 1, 4) := by kernel_rfl
theorem Tryz.sz157 : szOf Tryz.prog 157 = some 1 := by kernel_rfl
theorem Tryz.zr157 : zeroOf Tryz.prog 157 = some (.nilFunc) := by kernel_rfl
theorem Tryz.by157 : byOf Tryz.prog 157 = some (.nilFunc, 1, 8) := by kernel_rfl
theorem Tryz.sz159 : szOf Tryz.prog 159 = some 1 := by kernel_rfl
theorem Tryz.zr159 : zeroOf Tryz.prog 159 = some (.nilFunc) := by kernel_rfl
theorem Tryz.by159 : byOf Tryz.prog 159 = some (.nilFunc, 1, 8) := by kernel_rfl
theorem Tryz.sz160 : szOf Tryz.prog 160 = some 1 := by kernel_rfl
theorem Tryz.zr160 : zeroOf Tryz.prog 160 = some (.int .u64 0) := by kernel_rfl
theorem Tryz.by160 : byOf Tryz.prog 160 = some (.int .u64 0, 1, 8) := by kernel_rfl
theorem Tryz.sz161 : szOf Tryz.prog 161 = some 1 := by kernel_rfl
theorem Tryz.zr161 : zeroOf Tryz.prog 161 = some (.nilFunc) := by kernel_rfl
theorem Tryz.by161 : byOf Tryz.prog 161 = some (.nilFunc, 1, 8) := by kernel_rfl
theorem Tryz.sz162 : szOf Tryz.prog 162 = some 1 := by kernel_rfl
theorem Tryz.zr162 : zeroOf Tryz.prog 162 = some (.nilFunc) := by kernel_rfl
theorem Tryz.by162 : byOf Tryz.prog 162 = some (.nilFunc, 1, 8) := by kernel_rfl
theorem Tryz.sz163 : szOf Tryz.prog 163 = some 1 := by kernel_rfl
theorem Tryz.zr163 : zeroOf Tryz.prog 163 = some (.nilFunc) := by kernel_rfl
theorem Tryz.by163 : byOf Tryz.prog 163 = some (.nilFunc, 1, 8) := by kernel_rfl
theorem Tryz.sz164 : szOf Tryz.prog 164 = some 1 := by kernel_rfl
theorem Tryz.zr164 : zeroOf Tryz.prog 164 = some (.pointer none) := by kernel_rfl
theorem Tryz.by164 : byOf Tryz.prog 164 = some (.pointer none, 1, 8) := by kernel_rfl
theorem Tryz.sz165 : szOf Tryz.prog 165 = some 1 := by kernel_rfl
theorem Tryz.zr165 : zeroOf Tryz.prog 165 = some (.nilFunc) := by kernel_rfl
theorem Tryz.by165 : byOf Tryz.prog 165 = some (.nilFunc, 1, 8) := by kernel_rfl
theorem Tryz.sz166 : szOf Tryz.prog 166 = some 1 := by kernel_rfl
theorem Tryz.zr166 : zeroOf Tryz.prog 166 = some (.nilFunc) := by kernel_rfl
theorem Tryz.by166 : byOf Tryz.prog 166 = some (.nilFunc, 1, 8) := by kernel_rfl
theorem Tryz.sz167 : szOf Tryz.prog 167 = some 1 := by kernel_rfl
theorem Tryz.zr167 : zeroOf Tryz.prog 167 = some (.pointer none) := by kernel_rfl
theorem Tryz.by167 : byOf Tryz.prog 167 = some (.pointer none, 1, 8) := by kernel_rfl
theorem Tryz.sz169 : szOf Tryz.prog 169 = some 1 := by kernel_rfl
theorem Tryz.zr169 : zeroOf Tryz.prog 169 = some (.nilFunc) := by kernel_rfl
theorem Tryz.by169 : byOf Tryz.prog 169 = some (.nilFunc, 1, 8) := by kernel_rfl
theorem Tryz.sz170 : szOf Tryz.prog 170 = some 256 := by kernel_rfl
theorem Tryz.zr170 : zeroOf Tryz.prog 170 = some (idV (List.replicate 256 0)) := by kernel_rfl
theorem Tryz.by170 : byOf Tryz.prog 170 = some (idV (List.replicate 256 0), 256, 256) := by kernel_rfl
theorem Tryz.sz171 : szOf Tryz.prog 171 = some 2 := by kernel_rfl
theorem Tryz.zr171 : zeroOf Tryz.prog 171 = some (.agg #[.int .u8 0, .int .u8 0]) := by kernel_rfl
theorem Tryz.by171 : byOf Tryz.prog 171 = some (.agg #[.int .u8 0, .int .u8 0], 2, 2) := by kernel_rfl
theorem Tryz.ql171 : plOf Tryz.prog 171 = some [(0, 1), (1, 1)] := by kernel_rfl
theorem Tryz.pl171 : (match Program.underlying Tryz.prog 171 with | some (.struct fs) => placesOf Tryz.prog fs.toList | _ => none) = some [(0, 1), (1, 1)] := by kernel_rfl
theorem Tryz.sz172 : szOf Tryz.prog 172 = some 2 := by kernel_rfl
theorem Tryz.zr172 : zeroOf Tryz.prog 172 = some (.agg #[.int .u8 0, .int .u8 0]) := by kernel_rfl
theorem Tryz.by172 : byOf Tryz.prog 172 = some (.agg #[.int .u8 0, .int .u8 0], 2, 2) := by kernel_rfl
theorem Tryz.ql172 : plOf Tryz.prog 172 = some [(0, 1), (1, 1)] := by kernel_rfl
theorem Tryz.pl172 : (match Program.underlying Tryz.prog 172 with | some (.struct fs) => placesOf Tryz.prog fs.toList | _ => none) = some [(0, 1), (1, 1)] := by kernel_rfl
theorem Tryz.sz173 : szOf Tryz.prog 173 = some 32 := by kernel_rfl
theorem Tryz.zr173 : zeroOf Tryz.prog 173 = some (.agg #[.int .u8 0, .int .u8 0, .int .u8 0, .int .u8 0, .int .u8 0, .int .u8 0, .int .u8 0, .int .u8 0, .int .u8 0, .int .u8 0, .int .u8 0, .int .u8 0, .int .u8 0, .int .u8 0, .int .u8 0, .int .u8 0, .int .u8 0, .int .u8 0, .int .u8 0, .int .u8 0, .int .u8 0, .int .u8 0, .int .u8 0, .int .u8 0, .int .u8 0, .int .u8 0, .int .u8 0, .int .u8 0, .int .u8 0, .int .u8 0, .int .u8 0, .int .u8 0]) := by kernel_rfl
theorem Tryz.by173 : byOf Tryz.prog 173 = some (.agg #[.int .u8 0, .int .u8 0, .int .u8 0, .int .u8 0, .int .u8 0, .int .u8 0, .int .u8 0, .int .u8 0, .int .u8 0, .int .u8 0, .int .u8 0, .int .u8 0, .int .u8 0, .int .u8 0, .int .u8 0, .int .u8 0, .int .u8 0, .int .u8 0, .int .u8 0, .int .u8 0, .int .u8 0, .int .u8 0, .int .u8 0, .int .u8 0, .int .u8 0, .int .u8 0, .int .u8 0, .int .u8 0, .int .u8 0, .int .u8 0, .int .u8 0, .int .u8 0], 32, 32) := by kernel_rfl
theorem Tryz.sz175 : szOf Tryz.prog 175 = some 1 := by kernel_rfl
theorem Tryz.zr175 : zeroOf Tryz.prog 175 = some (.nilFunc) := by kernel_rfl
theorem Tryz.by175 : byOf Tryz.prog 175 = some (.nilFunc, 1, 8) := by kernel_rfl
theorem Tryz.sz176 : szOf Tryz.prog 176 = some 4 := by kernel_rfl
theorem Tryz.zr176 : zeroOf Tryz.prog 176 = some (.agg #[.pointer none, .pointer none, .pointer none, .string ⟨#[]⟩]) := by kernel_rfl
theorem Tryz.by176 : byOf Tryz.prog 176 = some (.agg #[.pointer none, .pointer none, .pointer none, .string ⟨#[]⟩], 4, 40) := by kernel_rfl
theorem Tryz.ql176 : plOf Tryz.prog 176 = some [(0, 1), (1, 1), (2, 1), (3, 1)] := by kernel_rfl
theorem Tryz.pl176 : (match Program.underlying Tryz.prog 176 with | some (.struct fs) => placesOf Tryz.prog fs.toList | _ => none) = some [(0, 1), (1, 1), (2, 1), (3, 1)] := by kernel_rfl
theorem Tryz.sz177 : szOf Tryz.prog 177 = some 4 := by kernel_rfl
theorem Tryz.zr177 : zeroOf Tryz.prog 177 = some (.agg #[.pointer none, .pointer none, .pointer none, .string ⟨#[]⟩]) := by kernel_rfl
theorem Tryz.by177 : byOf Tryz.prog 177 = some (.agg #[.pointer none, .pointer none, .pointer none, .string ⟨#[]⟩], 4, 40) := by kernel_rfl
theorem Tryz.ql177 : plOf Tryz.prog 177 = some [(0, 1), (1, 1), (2, 1), (3, 1)] := by kernel_rfl
theorem Tryz.pl177 : (match Program.underlying Tryz.prog 177 with | some (.struct fs) => placesOf Tryz.prog fs.toList | _ => none) = some [(0, 1), (1, 1), (2, 1), (3, 1)] := by kernel_rfl
theorem Tryz.sz178 : szOf Tryz.prog 178 = some 0 := by kernel_rfl
theorem Tryz.zr178 : zeroOf Tryz.prog 178 = some (.agg #[]) := by kernel_rfl
theorem Tryz.by178 : byOf Tryz.prog 178 = some (.agg #[], 0, 0) := by kernel_rfl
theorem Tryz.sz179 : szOf Tryz.prog 179 = some 0 := by kernel_rfl
theorem Tryz.zr179 : zeroOf Tryz.prog 179 = some (.agg #[]) := by kernel_rfl
theorem Tryz.by179 : byOf Tryz.prog 179 = some (.agg #[], 0, 0) := by kernel_rfl
theorem Tryz.ql179 : plOf Tryz.prog 179 = some [(0, 0)] := by kernel_rfl
theorem Tryz.pl179 : (match Program.underlying Tryz.prog 179 with | some (.struct fs) => placesOf Tryz.prog fs.toList | _ => none) = some [(0, 0)] := by kernel_rfl
theorem Tryz.sz180 : szOf Tryz.prog 180 = some 0 := by kernel_rfl
theorem Tryz.zr180 : zeroOf Tryz.prog 180 = some (.agg #[]) := by kernel_rfl
theorem Tryz.by180 : byOf Tryz.prog 180 = some (.agg #[], 0, 0) := by kernel_rfl
theorem Tryz.ql180 : plOf Tryz.prog 180 = some [(0, 0)] := by kernel_rfl
theorem Tryz.pl180 : (match Program.underlying Tryz.prog 180 with | some (.struct fs) => placesOf Tryz.prog fs.toList | _ => none) = some [(0, 0)] := by kernel_rfl
theorem Tryz.sz181 : szOf Tryz.prog 181 = some 1 := by kernel_rfl
theorem Tryz.zr181 : zeroOf Tryz.prog 181 = some (.int .u8 0) := by kernel_rfl
theorem Tryz.by181 : byOf Tryz.prog 181 = some (.int .u8 0, 1, 1) := by kernel_rfl
theorem Tryz.sz182 : szOf Tryz.prog 182 = some 1 := by kernel_rfl
theorem Tryz.zr182 : zeroOf Tryz.prog 182 = some (.int .u8 0) := by kernel_rfl
theorem Tryz.by182 : byOf Tryz.prog 182 = some (.int .u8 0, 1, 1) := by kernel_rfl
theorem Tryz.sz183 : szOf Tryz.prog 183 = some 1 := by kernel_rfl
theorem Tryz.zr183 : zeroOf Tryz.prog 183 = some (.nilFunc) := by kernel_rfl
theorem Tryz.by183 : byOf Tryz.prog 183 = some (.nilFunc, 1, 8) := by kernel_rfl
theorem Tryz.sz184 : szOf Tryz.prog 184 = some 1 := by kernel_rfl
theorem Tryz.zr184 : zeroOf Tryz.prog 184 = some (.pointer none) := by kernel_rfl
theorem Tryz.by184 : byOf Tryz.prog 184 = some (.pointer none, 1, 8) := by kernel_rfl
theorem Tryz.sz185 : szOf Tryz.prog 185 = some 1 := by kernel_rfl
theorem Tryz.zr185 : zeroOf Tryz.prog 185 = some (.int .i32 0) := by kernel_rfl
theorem Tryz.by185 : byOf Tryz.prog 185 = some (.int .i32 0, 1, 4) := by kernel_rfl
theorem Tryz.sz186 : szOf Tryz.prog 186 = some 1 := by kernel_rfl
theorem Tryz.zr186 : zeroOf Tryz.prog 186 = some (.int .i32 0) := by kernel_rfl
theorem Tryz.by186 : byOf Tryz.prog 186 = some (.int .i32 0, 1, 4) := by kernel_rfl
theorem Tryz.sz187 : szOf Tryz.prog 187 = some 11 := by kernel_rfl
theorem Tryz.zr187 : zeroOf Tryz.prog 187 = some (.agg #[.int .u64 0, .int .u64 0, .int .u32 0, .int .u8 0, .int .u8 0, .int .u8 0, .int .u8 0, .nilFunc, .pointer none, .int .i32 0, .int .i32 0]) := by kernel_rfl
theorem Tryz.by187 : byOf Tryz.prog 187 = some (.agg #[.int .u64 0, .int .u64 0, .int .u32 0, .int .u8 0, .int .u8 0, .int .u8 0, .int .u8 0, .nilFunc, .pointer none, .int .i32 0, .int .i32 0], 11, 48) := by kernel_rfl
theorem Tryz.ql187 : plOf Tryz.prog 187 = some [(0, 1), (1, 1), (2, 1), (3, 1), (4, 1), (5, 1), (6, 1), (7, 1), (8, 1), (9, 1), (10, 1)] := by kernel_rfl
theorem Tryz.pl187 : (match Program.underlying Tryz.prog 187 with | some (.struct fs) => placesOf Tryz.prog fs.toList | _ => none) = some [(0, 1), (1, 1), (2, 1), (3, 1), (4, 1), (5, 1), (6, 1), (7, 1), (8, 1), (9, 1), (10, 1)] := by kernel_rfl
theorem Tryz.sz188 : szOf Tryz.prog 188 = some 11 := by kernel_rfl
theorem Tryz.zr188 : zeroOf Tryz.prog 188 = some (.agg #[.int .u64 0, .int .u64 0, .int .u32 0, .int .u8 0, .int .u8 0, .int .u8 0, .int .u8 0, .nilFunc, .pointer none, .int .i32 0, .int .i32 0]) := by kernel_rfl
theorem Tryz.by188 : byOf Tryz.prog 188 = some (.agg #[.int .u64 0, .int .u64 0, .int .u32 0, .int .u8 0, .int .u8 0, .int .u8 0, .int .u8 0, .nilFunc, .pointer none, .int .i32 0, .int .i32 0], 11, 48) := by kernel_rfl
theorem Tryz.ql188 : plOf Tryz.prog 188 = some [(0, 1), (1, 1), (2, 1), (3, 1), (4, 1), (5, 1), (6, 1), (7, 1), (8, 1), (9, 1), (10, 1)] := by kernel_rfl
theorem Tryz.pl188 : (match Program.underlying Tryz.prog 188 with | some (.struct fs) => placesOf Tryz.prog fs.toList | _ => none) = some [(0, 1), (1, 1), (2, 1), (3, 1), (4, 1), (5, 1), (6, 1), (7, 1), (8, 1), (9, 1), (10, 1)] := by kernel_rfl
end Go.Proofs.YtifghjeapfijkaaGreatDoor
