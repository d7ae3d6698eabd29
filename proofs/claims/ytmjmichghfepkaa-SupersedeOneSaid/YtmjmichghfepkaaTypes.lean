/-
  The numbers of cells of the types and their zero values, printed by a program.
-/
import Derived.Test.YtmjmichghfepkaaProg
import Derived.Test.YtmjmichghfepkaaEngCall
import Derived.KernelRfl
namespace Go.Proofs.Ytmjmichghfepkaa
open Go.Eng
theorem Try.sz1 : szOf Try.prog 1 = some 1 := by kernel_rfl
theorem Try.zr1 : zeroOf Try.prog 1 = some (.nilFunc) := by kernel_rfl
theorem Try.by1 : byOf Try.prog 1 = some (.nilFunc, 1, 8) := by kernel_rfl
theorem Try.sz2 : szOf Try.prog 2 = some 1 := by kernel_rfl
theorem Try.zr2 : zeroOf Try.prog 2 = some (.int .i64 0) := by kernel_rfl
theorem Try.by2 : byOf Try.prog 2 = some (.int .i64 0, 1, 8) := by kernel_rfl
theorem Try.sz3 : szOf Try.prog 3 = some 1 := by kernel_rfl
theorem Try.zr3 : zeroOf Try.prog 3 = some (.int .i64 0) := by kernel_rfl
theorem Try.by3 : byOf Try.prog 3 = some (.int .i64 0, 1, 8) := by kernel_rfl
theorem Try.sz4 : szOf Try.prog 4 = some 1 := by kernel_rfl
theorem Try.zr4 : zeroOf Try.prog 4 = some (.bool false) := by kernel_rfl
theorem Try.by4 : byOf Try.prog 4 = some (.bool false, 1, 1) := by kernel_rfl
theorem Try.sz5 : szOf Try.prog 5 = some 1 := by kernel_rfl
theorem Try.zr5 : zeroOf Try.prog 5 = some (.int .u8 0) := by kernel_rfl
theorem Try.by5 : byOf Try.prog 5 = some (.int .u8 0, 1, 1) := by kernel_rfl
theorem Try.sz6 : szOf Try.prog 6 = some 1 := by kernel_rfl
theorem Try.zr6 : zeroOf Try.prog 6 = some (.int .u8 0) := by kernel_rfl
theorem Try.by6 : byOf Try.prog 6 = some (.int .u8 0, 1, 1) := by kernel_rfl
theorem Try.sz7 : szOf Try.prog 7 = some 4 := by kernel_rfl
theorem Try.zr7 : zeroOf Try.prog 7 = some (.agg #[.int .i64 0, .int .i64 0, .bool false, .int .u8 0]) := by kernel_rfl
theorem Try.by7 : byOf Try.prog 7 = some (.agg #[.int .i64 0, .int .i64 0, .bool false, .int .u8 0], 4, 24) := by kernel_rfl
theorem Try.ql7 : plOf Try.prog 7 = some [(0, 1), (1, 1), (2, 1), (3, 1)] := by kernel_rfl
theorem Try.pl7 : (match Program.underlying Try.prog 7 with | some (.struct fs) => placesOf Try.prog fs.toList | _ => none) = some [(0, 1), (1, 1), (2, 1), (3, 1)] := by kernel_rfl
theorem Try.sz8 : szOf Try.prog 8 = some 4 := by kernel_rfl
theorem Try.zr8 : zeroOf Try.prog 8 = some (.agg #[.int .i64 0, .int .i64 0, .bool false, .int .u8 0]) := by kernel_rfl
theorem Try.by8 : byOf Try.prog 8 = some (.agg #[.int .i64 0, .int .i64 0, .bool false, .int .u8 0], 4, 24) := by kernel_rfl
theorem Try.ql8 : plOf Try.prog 8 = some [(0, 1), (1, 1), (2, 1), (3, 1)] := by kernel_rfl
theorem Try.pl8 : (match Program.underlying Try.prog 8 with | some (.struct fs) => placesOf Try.prog fs.toList | _ => none) = some [(0, 1), (1, 1), (2, 1), (3, 1)] := by kernel_rfl
theorem Try.sz9 : szOf Try.prog 9 = some 1 := by kernel_rfl
theorem Try.zr9 : zeroOf Try.prog 9 = some (.string ⟨#[]⟩) := by kernel_rfl
theorem Try.by9 : byOf Try.prog 9 = some (.string ⟨#[]⟩, 1, 16) := by kernel_rfl
theorem Try.sz10 : szOf Try.prog 10 = some 1 := by kernel_rfl
theorem Try.zr10 : zeroOf Try.prog 10 = some (.string ⟨#[]⟩) := by kernel_rfl
theorem Try.by10 : byOf Try.prog 10 = some (.string ⟨#[]⟩, 1, 16) := by kernel_rfl
theorem Try.sz11 : szOf Try.prog 11 = some 1 := by kernel_rfl
theorem Try.zr11 : zeroOf Try.prog 11 = some (.string ⟨#[]⟩) := by kernel_rfl
theorem Try.by11 : byOf Try.prog 11 = some (.string ⟨#[]⟩, 1, 16) := by kernel_rfl
theorem Try.sz12 : szOf Try.prog 12 = some 1 := by kernel_rfl
theorem Try.zr12 : zeroOf Try.prog 12 = some (.int .u64 0) := by kernel_rfl
theorem Try.by12 : byOf Try.prog 12 = some (.int .u64 0, 1, 8) := by kernel_rfl
theorem Try.sz13 : szOf Try.prog 13 = some 2 := by kernel_rfl
theorem Try.zr13 : zeroOf Try.prog 13 = some (.agg #[.string ⟨#[]⟩, .int .u64 0]) := by kernel_rfl
theorem Try.by13 : byOf Try.prog 13 = some (.agg #[.string ⟨#[]⟩, .int .u64 0], 2, 24) := by kernel_rfl
theorem Try.ql13 : plOf Try.prog 13 = some [(0, 1), (1, 1)] := by kernel_rfl
theorem Try.pl13 : (match Program.underlying Try.prog 13 with | some (.struct fs) => placesOf Try.prog fs.toList | _ => none) = some [(0, 1), (1, 1)] := by kernel_rfl
theorem Try.sz14 : szOf Try.prog 14 = some 2 := by kernel_rfl
theorem Try.zr14 : zeroOf Try.prog 14 = some (.agg #[.string ⟨#[]⟩, .int .u64 0]) := by kernel_rfl
theorem Try.by14 : byOf Try.prog 14 = some (.agg #[.string ⟨#[]⟩, .int .u64 0], 2, 24) := by kernel_rfl
theorem Try.ql14 : plOf Try.prog 14 = some [(0, 1), (1, 1)] := by kernel_rfl
theorem Try.pl14 : (match Program.underlying Try.prog 14 with | some (.struct fs) => placesOf Try.prog fs.toList | _ => none) = some [(0, 1), (1, 1)] := by kernel_rfl
theorem Try.sz15 : szOf Try.prog 15 = some 1 := by kernel_rfl
theorem Try.zr15 : zeroOf Try.prog 15 = some (.pointer none) := by kernel_rfl
theorem Try.by15 : byOf Try.prog 15 = some (.pointer none, 1, 8) := by kernel_rfl
theorem Try.sz16 : szOf Try.prog 16 = some 1 := by kernel_rfl
theorem Try.zr16 : zeroOf Try.prog 16 = some (.pointer none) := by kernel_rfl
theorem Try.by16 : byOf Try.prog 16 = some (.pointer none, 1, 8) := by kernel_rfl
theorem Try.sz17 : szOf Try.prog 17 = some 1 := by kernel_rfl
theorem Try.zr17 : zeroOf Try.prog 17 = some (.pointer none) := by kernel_rfl
theorem Try.by17 : byOf Try.prog 17 = some (.pointer none, 1, 8) := by kernel_rfl
theorem Try.sz18 : szOf Try.prog 18 = some 1 := by kernel_rfl
theorem Try.zr18 : zeroOf Try.prog 18 = some (.agg #[.pointer none]) := by kernel_rfl
theorem Try.by18 : byOf Try.prog 18 = some (.agg #[.pointer none], 1, 8) := by kernel_rfl
theorem Try.ql18 : plOf Try.prog 18 = some [(0, 1)] := by kernel_rfl
theorem Try.pl18 : (match Program.underlying Try.prog 18 with | some (.struct fs) => placesOf Try.prog fs.toList | _ => none) = some [(0, 1)] := by kernel_rfl
theorem Try.sz19 : szOf Try.prog 19 = some 1 := by kernel_rfl
theorem Try.zr19 : zeroOf Try.prog 19 = some (.agg #[.pointer none]) := by kernel_rfl
theorem Try.by19 : byOf Try.prog 19 = some (.agg #[.pointer none], 1, 8) := by kernel_rfl
theorem Try.ql19 : plOf Try.prog 19 = some [(0, 1)] := by kernel_rfl
theorem Try.pl19 : (match Program.underlying Try.prog 19 with | some (.struct fs) => placesOf Try.prog fs.toList | _ => none) = some [(0, 1)] := by kernel_rfl
theorem Try.sz20 : szOf Try.prog 20 = some 1 := by kernel_rfl
theorem Try.zr20 : zeroOf Try.prog 20 = some (.nilIface) := by kernel_rfl
theorem Try.by20 : byOf Try.prog 20 = some (.nilIface, 1, 16) := by kernel_rfl
theorem Try.sz21 : szOf Try.prog 21 = some 1 := by kernel_rfl
theorem Try.zr21 : zeroOf Try.prog 21 = some (.int .i32 0) := by kernel_rfl
theorem Try.by21 : byOf Try.prog 21 = some (.int .i32 0, 1, 4) := by kernel_rfl
theorem Try.sz22 : szOf Try.prog 22 = some 1 := by kernel_rfl
theorem Try.zr22 : zeroOf Try.prog 22 = some (.slice none 0 0) := by kernel_rfl
theorem Try.by22 : byOf Try.prog 22 = some (.slice none 0 0, 1, 24) := by kernel_rfl
theorem Try.sz23 : szOf Try.prog 23 = some 32 := by kernel_rfl
theorem Try.zr23 : zeroOf Try.prog 23 = some (idV (List.replicate 32 0)) := by kernel_rfl
theorem Try.by23 : byOf Try.prog 23 = some (idV (List.replicate 32 0), 32, 32) := by kernel_rfl
theorem Try.lv23 : leaves Try.prog 10 23 = some (List.replicate 32 (lInt .u8)) := by kernel_rfl
theorem Try.gd23 : Program.eqGuardType Try.prog (Program.depth Try.prog) 23 = false := by kernel_rfl
theorem Try.sz24 : szOf Try.prog 24 = some 16 := by kernel_rfl
theorem Try.zr24 : zeroOf Try.prog 24 = some (idV (List.replicate 16 0)) := by kernel_rfl
theorem Try.by24 : byOf Try.prog 24 = some (idV (List.replicate 16 0), 16, 16) := by kernel_rfl
theorem Try.lv24 : leaves Try.prog 10 24 = some (List.replicate 16 (lInt .u8)) := by kernel_rfl
theorem Try.gd24 : Program.eqGuardType Try.prog (Program.depth Try.prog) 24 = false := by kernel_rfl
theorem Try.sz25 : szOf Try.prog 25 = some 82 := by kernel_rfl
theorem Try.zr25 : zeroOf Try.prog 25 = some (.agg #[.int .u8 0, .int .u8 0, .int .u8 0, .int .u8 0, .int .u8 0, .int .u8 0, .int .u8 0, .int .u8 0, .int .u8 0, .int .u8 0, .int .u8 0, .int .u8 0, .int .u8 0, .int .u8 0, .int .u8 0, .int .u8 0, .int .u8 0, .int .u8 0, .int .u8 0, .int .u8 0, .int .u8 0, .int .u8 0, .int .u8 0, .int .u8 0, .int .u8 0, .int .u8 0, .int .u8 0, .int .u8 0, .int .u8 0, .int .u8 0, .int .u8 0, .int .u8 0, .int .u8 0, .int .u8 0, .int .u8 0, .int .u8 0, .int .u8 0, .int .u8 0, .int .u8 0, .int .u8 0, .int .u8 0, .int .u8 0, .int .u8 0, .int .u8 0, .int .u8 0, .int .u8 0, .int .u8 0, .int .u8 0, .int .i64 0, .int .u8 0, .int .u8 0, .int .u8 0, .int .u8 0, .int .u8 0, .int .u8 0, .int .u8 0, .int .u8 0, .int .u8 0, .int .u8 0, .int .u8 0, .int .u8 0, .int .u8 0, .int .u8 0, .int .u8 0, .int .u8 0, .int .u8 0, .int .u8 0, .int .u8 0, .int .u8 0, .int .u8 0, .int .u8 0, .int .u8 0, .int .u8 0, .int .u8 0, .int .u8 0, .int .u8 0, .int .u8 0, .int .u8 0, .int .u8 0, .int .u8 0, .int .u8 0, .int .u8 0]) := by kernel_rfl
theorem Try.by25 : byOf Try.prog 25 = some (.agg #[.int .u8 0, .int .u8 0, .int .u8 0, .int .u8 0, .int .u8 0, .int .u8 0, .int .u8 0, .int .u8 0, .int .u8 0, .int .u8 0, .int .u8 0, .int .u8 0, .int .u8 0, .int .u8 0, .int .u8 0, .int .u8 0, .int .u8 0, .int .u8 0, .int .u8 0, .int .u8 0, .int .u8 0, .int .u8 0, .int .u8 0, .int .u8 0, .int .u8 0, .int .u8 0, .int .u8 0, .int .u8 0, .int .u8 0, .int .u8 0, .int .u8 0, .int .u8 0, .int .u8 0, .int .u8 0, .int .u8 0, .int .u8 0, .int .u8 0, .int .u8 0, .int .u8 0, .int .u8 0, .int .u8 0, .int .u8 0, .int .u8 0, .int .u8 0, .int .u8 0, .int .u8 0, .int .u8 0, .int .u8 0, .int .i64 0, .int .u8 0, .int .u8 0, .int .u8 0, .int .u8 0, .int .u8 0, .int .u8 0, .int .u8 0, .int .u8 0, .int .u8 0, .int .u8 0, .int .u8 0, .int .u8 0, .int .u8 0, .int .u8 0, .int .u8 0, .int .u8 0, .int .u8 0, .int .u8 0, .int .u8 0, .int .u8 0, .int .u8 0, .int .u8 0, .int .u8 0, .int .u8 0, .int .u8 0, .int .u8 0, .int .u8 0, .int .u8 0, .int .u8 0, .int .u8 0, .int .u8 0, .int .u8 0, .int .u8 0], 82, 96) := by kernel_rfl
theorem Try.ql25 : plOf Try.prog 25 = some [(0, 32), (32, 16), (48, 1), (49, 32), (81, 1)] := by kernel_rfl
theorem Try.pl25 : (match Program.underlying Try.prog 25 with | some (.struct fs) => placesOf Try.prog fs.toList | _ => none) = some [(0, 32), (32, 16), (48, 1), (49, 32), (81, 1)] := by kernel_rfl
theorem Try.sz26 : szOf Try.prog 26 = some 82 := by kernel_rfl
theorem Try.zr26 : zeroOf Try.prog 26 = some (.agg #[.int .u8 0, .int .u8 0, .int .u8 0, .int .u8 0, .int .u8 0, .int .u8 0, .int .u8 0, .int .u8 0, .int .u8 0, .int .u8 0, .int .u8 0, .int .u8 0, .int .u8 0, .int .u8 0, .int .u8 0, .int .u8 0, .int .u8 0, .int .u8 0, .int .u8 0, .int .u8 0, .int .u8 0, .int .u8 0, .int .u8 0, .int .u8 0, .int .u8 0, .int .u8 0, .int .u8 0, .int .u8 0, .int .u8 0, .int .u8 0, .int .u8 0, .int .u8 0, .int .u8 0, .int .u8 0, .int .u8 0, .int .u8 0, .int .u8 0, .int .u8 0, .int .u8 0, .int .u8 0, .int .u8 0, .int .u8 0, .int .u8 0, .int .u8 0, .int .u8 0, .int .u8 0, .int .u8 0, .int .u8 0, .int .i64 0, .int .u8 0, .int .u8 0, .int .u8 0, .int .u8 0, .int .u8 0, .int .u8 0, .int .u8 0, .int .u8 0, .int .u8 0, .int .u8 0, .int .u8 0, .int .u8 0, .int .u8 0, .int .u8 0, .int .u8 0, .int .u8 0, .int .u8 0, .int .u8 0, .int .u8 0, .int .u8 0, .int .u8 0, .int .u8 0, .int .u8 0, .int .u8 0, .int .u8 0, .int .u8 0, .int .u8 0, .int .u8 0, .int .u8 0, .int .u8 0, .int .u8 0, .int .u8 0, .int .u8 0]) := by kernel_rfl
theorem Try.by26 : byOf Try.prog 26 = some (.agg #[.int .u8 0, .int .u8 0, .int .u8 0, .int .u8 0, .int .u8 0, .int .u8 0, .int .u8 0, .int .u8 0, .int .u8 0, .int .u8 0, .int .u8 0, .int .u8 0, .int .u8 0, .int .u8 0, .int .u8 0, .int .u8 0, .int .u8 0, .int .u8 0, .int .u8 0, .int .u8 0, .int .u8 0, .int .u8 0, .int .u8 0, .int .u8 0, .int .u8 0, .int .u8 0, .int .u8 0, .int .u8 0, .int .u8 0, .int .u8 0, .int .u8 0, .int .u8 0, .int .u8 0, .int .u8 0, .int .u8 0, .int .u8 0, .int .u8 0, .int .u8 0, .int .u8 0, .int .u8 0, .int .u8 0, .int .u8 0, .int .u8 0, .int .u8 0, .int .u8 0, .int .u8 0, .int .u8 0, .int .u8 0, .int .i64 0, .int .u8 0, .int .u8 0, .int .u8 0, .int .u8 0, .int .u8 0, .int .u8 0, .int .u8 0, .int .u8 0, .int .u8 0, .int .u8 0, .int .u8 0, .int .u8 0, .int .u8 0, .int .u8 0, .int .u8 0, .int .u8 0, .int .u8 0, .int .u8 0, .int .u8 0, .int .u8 0, .int .u8 0, .int .u8 0, .int .u8 0, .int .u8 0, .int .u8 0, .int .u8 0, .int .u8 0, .int .u8 0, .int .u8 0, .int .u8 0, .int .u8 0, .int .u8 0, .int .u8 0], 82, 96) := by kernel_rfl
theorem Try.lv26 : leaves Try.prog 10 26 = some (List.replicate 48 (lInt .u8) ++ [lInt .i64] ++ List.replicate 33 (lInt .u8)) := by kernel_rfl
theorem Try.gd26 : Program.eqGuardType Try.prog (Program.depth Try.prog) 26 = false := by kernel_rfl
theorem Try.ql26 : plOf Try.prog 26 = some [(0, 32), (32, 16), (48, 1), (49, 32), (81, 1)] := by kernel_rfl
theorem Try.pl26 : (match Program.underlying Try.prog 26 with | some (.struct fs) => placesOf Try.prog fs.toList | _ => none) = some [(0, 32), (32, 16), (48, 1), (49, 32), (81, 1)] := by kernel_rfl
theorem Try.sz27 : szOf Try.prog 27 = some 1 := by kernel_rfl
theorem Try.zr27 : zeroOf Try.prog 27 = some (.slice none 0 0) := by kernel_rfl
theorem Try.by27 : byOf Try.prog 27 = some (.slice none 0 0, 1, 24) := by kernel_rfl
theorem Try.sz29 : szOf Try.prog 29 = some 1 := by kernel_rfl
theorem Try.zr29 : zeroOf Try.prog 29 = some (.nilFunc) := by kernel_rfl
theorem Try.by29 : byOf Try.prog 29 = some (.nilFunc, 1, 8) := by kernel_rfl
theorem Try.sz30 : szOf Try.prog 30 = some 1 := by kernel_rfl
theorem Try.zr30 : zeroOf Try.prog 30 = some (.int .i64 0) := by kernel_rfl
theorem Try.by30 : byOf Try.prog 30 = some (.int .i64 0, 1, 8) := by kernel_rfl
theorem Try.sz32 : szOf Try.prog 32 = some 1 := by kernel_rfl
theorem Try.zr32 : zeroOf Try.prog 32 = some (.nilFunc) := by kernel_rfl
theorem Try.by32 : byOf Try.prog 32 = some (.nilFunc, 1, 8) := by kernel_rfl
theorem Try.sz34 : szOf Try.prog 34 = some 1 := by kernel_rfl
theorem Try.zr34 : zeroOf Try.prog 34 = some (.nilFunc) := by kernel_rfl
theorem Try.by34 : byOf Try.prog 34 = some (.nilFunc, 1, 8) := by kernel_rfl
theorem Try.sz35 : szOf Try.prog 35 = some 1 := by kernel_rfl
theorem Try.zr35 : zeroOf Try.prog 35 = some (.nilFunc) := by kernel_rfl
theorem Try.by35 : byOf Try.prog 35 = some (.nilFunc, 1, 8) := by kernel_rfl
theorem Try.sz36 : szOf Try.prog 36 = some 1 := by kernel_rfl
theorem Try.zr36 : zeroOf Try.prog 36 = some (.nilFunc) := by kernel_rfl
theorem Try.by36 : byOf Try.prog 36 = some (.nilFunc, 1, 8) := by kernel_rfl
theorem Try.sz37 : szOf Try.prog 37 = some 32 := by kernel_rfl
theorem Try.zr37 : zeroOf Try.prog 37 = some (idV (List.replicate 32 0)) := by kernel_rfl
theorem Try.by37 : byOf Try.prog 37 = some (idV (List.replicate 32 0), 32, 32) := by kernel_rfl
theorem Try.lv37 : leaves Try.prog 10 37 = some (List.replicate 32 (lInt .u8)) := by kernel_rfl
theorem Try.gd37 : Program.eqGuardType Try.prog (Program.depth Try.prog) 37 = false := by kernel_rfl
theorem Try.sz38 : szOf Try.prog 38 = some 16 := by kernel_rfl
theorem Try.zr38 : zeroOf Try.prog 38 = some (idV (List.replicate 16 0)) := by kernel_rfl
theorem Try.by38 : byOf Try.prog 38 = some (idV (List.replicate 16 0), 16, 16) := by kernel_rfl
theorem Try.lv38 : leaves Try.prog 10 38 = some (List.replicate 16 (lInt .u8)) := by kernel_rfl
theorem Try.gd38 : Program.eqGuardType Try.prog (Program.depth Try.prog) 38 = false := by kernel_rfl
theorem Try.sz39 : szOf Try.prog 39 = some 1 := by kernel_rfl
theorem Try.zr39 : zeroOf Try.prog 39 = some (.slice none 0 0) := by kernel_rfl
theorem Try.by39 : byOf Try.prog 39 = some (.slice none 0 0, 1, 24) := by kernel_rfl
theorem Try.sz40 : szOf Try.prog 40 = some 1 := by kernel_rfl
theorem Try.zr40 : zeroOf Try.prog 40 = some (.slice none 0 0) := by kernel_rfl
theorem Try.by40 : byOf Try.prog 40 = some (.slice none 0 0, 1, 24) := by kernel_rfl
theorem Try.sz41 : szOf Try.prog 41 = some 83 := by kernel_rfl
theorem Try.zr41 : zeroOf Try.prog 41 = some (.agg #[.int .u8 0, .int .u8 0, .int .u8 0, .int .u8 0, .int .u8 0, .int .u8 0, .int .u8 0, .int .u8 0, .int .u8 0, .int .u8 0, .int .u8 0, .int .u8 0, .int .u8 0, .int .u8 0, .int .u8 0, .int .u8 0, .int .u8 0, .int .u8 0, .int .u8 0, .int .u8 0, .int .u8 0, .int .u8 0, .int .u8 0, .int .u8 0, .int .u8 0, .int .u8 0, .int .u8 0, .int .u8 0, .int .u8 0, .int .u8 0, .int .u8 0, .int .u8 0, .int .u8 0, .int .u8 0, .int .u8 0, .int .u8 0, .int .u8 0, .int .u8 0, .int .u8 0, .int .u8 0, .int .u8 0, .int .u8 0, .int .u8 0, .int .u8 0, .int .u8 0, .int .u8 0, .int .u8 0, .int .u8 0, .int .i64 0, .slice none 0 0, .slice none 0 0, .int .u8 0, .int .u8 0, .int .u8 0, .int .u8 0, .int .u8 0, .int .u8 0, .int .u8 0, .int .u8 0, .int .u8 0, .int .u8 0, .int .u8 0, .int .u8 0, .int .u8 0, .int .u8 0, .int .u8 0, .int .u8 0, .int .u8 0, .int .u8 0, .int .u8 0, .int .u8 0, .int .u8 0, .int .u8 0, .int .u8 0, .int .u8 0, .int .u8 0, .int .u8 0, .int .u8 0, .int .u8 0, .int .u8 0, .int .u8 0, .int .u8 0, .int .u8 0]) := by kernel_rfl
theorem Try.by41 : byOf Try.prog 41 = some (.agg #[.int .u8 0, .int .u8 0, .int .u8 0, .int .u8 0, .int .u8 0, .int .u8 0, .int .u8 0, .int .u8 0, .int .u8 0, .int .u8 0, .int .u8 0, .int .u8 0, .int .u8 0, .int .u8 0, .int .u8 0, .int .u8 0, .int .u8 0, .int .u8 0, .int .u8 0, .int .u8 0, .int .u8 0, .int .u8 0, .int .u8 0, .int .u8 0, .int .u8 0, .int .u8 0, .int .u8 0, .int .u8 0, .int .u8 0, .int .u8 0, .int .u8 0, .int .u8 0, .int .u8 0, .int .u8 0, .int .u8 0, .int .u8 0, .int .u8 0, .int .u8 0, .int .u8 0, .int .u8 0, .int .u8 0, .int .u8 0, .int .u8 0, .int .u8 0, .int .u8 0, .int .u8 0, .int .u8 0, .int .u8 0, .int .i64 0, .slice none 0 0, .slice none 0 0, .int .u8 0, .int .u8 0, .int .u8 0, .int .u8 0, .int .u8 0, .int .u8 0, .int .u8 0, .int .u8 0, .int .u8 0, .int .u8 0, .int .u8 0, .int .u8 0, .int .u8 0, .int .u8 0, .int .u8 0, .int .u8 0, .int .u8 0, .int .u8 0, .int .u8 0, .int .u8 0, .int .u8 0, .int .u8 0, .int .u8 0, .int .u8 0, .int .u8 0, .int .u8 0, .int .u8 0, .int .u8 0, .int .u8 0, .int .u8 0, .int .u8 0, .int .u8 0], 83, 136) := by kernel_rfl
theorem Try.ql41 : plOf Try.prog 41 = some [(0, 32), (32, 16), (48, 1), (49, 1), (50, 1), (51, 32)] := by kernel_rfl
theorem Try.pl41 : (match Program.underlying Try.prog 41 with | some (.struct fs) => placesOf Try.prog fs.toList | _ => none) = some [(0, 32), (32, 16), (48, 1), (49, 1), (50, 1), (51, 32)] := by kernel_rfl
theorem Try.sz42 : szOf Try.prog 42 = some 83 := by kernel_rfl
theorem Try.zr42 : zeroOf Try.prog 42 = some (.agg #[.int .u8 0, .int .u8 0, .int .u8 0, .int .u8 0, .int .u8 0, .int .u8 0, .int .u8 0, .int .u8 0, .int .u8 0, .int .u8 0, .int .u8 0, .int .u8 0, .int .u8 0, .int .u8 0, .int .u8 0, .int .u8 0, .int .u8 0, .int .u8 0, .int .u8 0, .int .u8 0, .int .u8 0, .int .u8 0, .int .u8 0, .int .u8 0, .int .u8 0, .int .u8 0, .int .u8 0, .int .u8 0, .int .u8 0, .int .u8 0, .int .u8 0, .int .u8 0, .int .u8 0, .int .u8 0, .int .u8 0, .int .u8 0, .int .u8 0, .int .u8 0, .int .u8 0, .int .u8 0, .int .u8 0, .int .u8 0, .int .u8 0, .int .u8 0, .int .u8 0, .int .u8 0, .int .u8 0, .int .u8 0, .int .i64 0, .slice none 0 0, .slice none 0 0, .int .u8 0, .int .u8 0, .int .u8 0, .int .u8 0, .int .u8 0, .int .u8 0, .int .u8 0, .int .u8 0, .int .u8 0, .int .u8 0, .int .u8 0, .int .u8 0, .int .u8 0, .int .u8 0, .int .u8 0, .int .u8 0, .int .u8 0, .int .u8 0, .int .u8 0, .int .u8 0, .int .u8 0, .int .u8 0, .int .u8 0, .int .u8 0, .int .u8 0, .int .u8 0, .int .u8 0, .int .u8 0, .int .u8 0, .int .u8 0, .int .u8 0, .int .u8 0]) := by kernel_rfl
theorem Try.by42 : byOf Try.prog 42 = some (.agg #[.int .u8 0, .int .u8 0, .int .u8 0, .int .u8 0, .int .u8 0, .int .u8 0, .int .u8 0, .int .u8 0, .int .u8 0, .int .u8 0, .int .u8 0, .int .u8 0, .int .u8 0, .int .u8 0, .int .u8 0, .int .u8 0, .int .u8 0, .int .u8 0, .int .u8 0, .int .u8 0, .int .u8 0, .int .u8 0, .int .u8 0, .int .u8 0, .int .u8 0, .int .u8 0, .int .u8 0, .int .u8 0, .int .u8 0, .int .u8 0, .int .u8 0, .int .u8 0, .int .u8 0, .int .u8 0, .int .u8 0, .int .u8 0, .int .u8 0, .int .u8 0, .int .u8 0, .int .u8 0, .int .u8 0, .int .u8 0, .int .u8 0, .int .u8 0, .int .u8 0, .int .u8 0, .int .u8 0, .int .u8 0, .int .i64 0, .slice none 0 0, .slice none 0 0, .int .u8 0, .int .u8 0, .int .u8 0, .int .u8 0, .int .u8 0, .int .u8 0, .int .u8 0, .int .u8 0, .int .u8 0, .int .u8 0, .int .u8 0, .int .u8 0, .int .u8 0, .int .u8 0, .int .u8 0, .int .u8 0, .int .u8 0, .int .u8 0, .int .u8 0, .int .u8 0, .int .u8 0, .int .u8 0, .int .u8 0, .int .u8 0, .int .u8 0, .int .u8 0, .int .u8 0, .int .u8 0, .int .u8 0, .int .u8 0, .int .u8 0, .int .u8 0], 83, 136) := by kernel_rfl
theorem Try.ql42 : plOf Try.prog 42 = some [(0, 32), (32, 16), (48, 1), (49, 1), (50, 1), (51, 32)] := by kernel_rfl
theorem Try.pl42 : (match Program.underlying Try.prog 42 with | some (.struct fs) => placesOf Try.prog fs.toList | _ => none) = some [(0, 32), (32, 16), (48, 1), (49, 1), (50, 1), (51, 32)] := by kernel_rfl
theorem Try.sz43 : szOf Try.prog 43 = some 1 := by kernel_rfl
theorem Try.zr43 : zeroOf Try.prog 43 = some (.nilFunc) := by kernel_rfl
theorem Try.by43 : byOf Try.prog 43 = some (.nilFunc, 1, 8) := by kernel_rfl
theorem Try.sz44 : szOf Try.prog 44 = some 1 := by kernel_rfl
theorem Try.zr44 : zeroOf Try.prog 44 = some (.nilFunc) := by kernel_rfl
theorem Try.by44 : byOf Try.prog 44 = some (.nilFunc, 1, 8) := by kernel_rfl
theorem Try.sz45 : szOf Try.prog 45 = some 1 := by kernel_rfl
theorem Try.zr45 : zeroOf Try.prog 45 = some (.nilFunc) := by kernel_rfl
theorem Try.by45 : byOf Try.prog 45 = some (.nilFunc, 1, 8) := by kernel_rfl
theorem Try.sz47 : szOf Try.prog 47 = some 1 := by kernel_rfl
theorem Try.zr47 : zeroOf Try.prog 47 = some (.nilFunc) := by kernel_rfl
theorem Try.by47 : byOf Try.prog 47 = some (.nilFunc, 1, 8) := by kernel_rfl
theorem Try.sz48 : szOf Try.prog 48 = some 1 := by kernel_rfl
theorem Try.zr48 : zeroOf Try.prog 48 = some (.nilFunc) := by kernel_rfl
theorem Try.by48 : byOf Try.prog 48 = some (.nilFunc, 1, 8) := by kernel_rfl
theorem Try.sz49 : szOf Try.prog 49 = some 1 := by kernel_rfl
theorem Try.zr49 : zeroOf Try.prog 49 = some (.slice none 0 0) := by kernel_rfl
theorem Try.by49 : byOf Try.prog 49 = some (.slice none 0 0, 1, 24) := by kernel_rfl
theorem Try.sz50 : szOf Try.prog 50 = some 1 := by kernel_rfl
theorem Try.zr50 : zeroOf Try.prog 50 = some (.nilFunc) := by kernel_rfl
theorem Try.by50 : byOf Try.prog 50 = some (.nilFunc, 1, 8) := by kernel_rfl
theorem Try.sz51 : szOf Try.prog 51 = some 1 := by kernel_rfl
theorem Try.zr51 : zeroOf Try.prog 51 = some (.nilFunc) := by kernel_rfl
theorem Try.by51 : byOf Try.prog 51 = some (.nilFunc, 1, 8) := by kernel_rfl
theorem Try.sz52 : szOf Try.prog 52 = some 1 := by kernel_rfl
theorem Try.zr52 : zeroOf Try.prog 52 = some (.nilFunc) := by kernel_rfl
theorem Try.by52 : byOf Try.prog 52 = some (.nilFunc, 1, 8) := by kernel_rfl
theorem Try.sz53 : szOf Try.prog 53 = some 1 := by kernel_rfl
theorem Try.zr53 : zeroOf Try.prog 53 = some (.nilFunc) := by kernel_rfl
theorem Try.by53 : byOf Try.prog 53 = some (.nilFunc, 1, 8) := by kernel_rfl
theorem Try.sz54 : szOf Try.prog 54 = some 1 := by kernel_rfl
theorem Try.zr54 : zeroOf Try.prog 54 = some (.pointer none) := by kernel_rfl
theorem Try.by54 : byOf Try.prog 54 = some (.pointer none, 1, 8) := by kernel_rfl
theorem Try.sz56 : szOf Try.prog 56 = some 1 := by kernel_rfl
theorem Try.zr56 : zeroOf Try.prog 56 = some (.nilFunc) := by kernel_rfl
theorem Try.by56 : byOf Try.prog 56 = some (.nilFunc, 1, 8) := by kernel_rfl
theorem Try.sz57 : szOf Try.prog 57 = some 1 := by kernel_rfl
theorem Try.zr57 : zeroOf Try.prog 57 = some (.nilFunc) := by kernel_rfl
theorem Try.by57 : byOf Try.prog 57 = some (.nilFunc, 1, 8) := by kernel_rfl
theorem Try.sz58 : szOf Try.prog 58 = some 1 := by kernel_rfl
theorem Try.zr58 : zeroOf Try.prog 58 = some (.slice none 0 0) := by kernel_rfl
theorem Try.by58 : byOf Try.prog 58 = some (.slice none 0 0, 1, 24) := by kernel_rfl
theorem Try.sz60 : szOf Try.prog 60 = some 1 := by kernel_rfl
theorem Try.zr60 : zeroOf Try.prog 60 = some (.nilFunc) := by kernel_rfl
theorem Try.by60 : byOf Try.prog 60 = some (.nilFunc, 1, 8) := by kernel_rfl
theorem Try.sz61 : szOf Try.prog 61 = some 1 := by kernel_rfl
theorem Try.zr61 : zeroOf Try.prog 61 = some (.nilFunc) := by kernel_rfl
theorem Try.by61 : byOf Try.prog 61 = some (.nilFunc, 1, 8) := by kernel_rfl
theorem Try.sz62 : szOf Try.prog 62 = some 1 := by kernel_rfl
theorem Try.zr62 : zeroOf Try.prog 62 = some (.nilFunc) := by kernel_rfl
theorem Try.by62 : byOf Try.prog 62 = some (.nilFunc, 1, 8) := by kernel_rfl
theorem Try.sz63 : szOf Try.prog 63 = some 1 := by kernel_rfl
theorem Try.zr63 : zeroOf Try.prog 63 = some (.nilFunc) := by kernel_rfl
theorem Try.by63 : byOf Try.prog 63 = some (.nilFunc, 1, 8) := by kernel_rfl
theorem Try.sz64 : szOf Try.prog 64 = some 1 := by kernel_rfl
theorem Try.zr64 : zeroOf Try.prog 64 = some (.nilFunc) := by kernel_rfl
theorem Try.by64 : byOf Try.prog 64 = some (.nilFunc, 1, 8) := by kernel_rfl
theorem Try.sz65 : szOf Try.prog 65 = some 1 := by kernel_rfl
theorem Try.zr65 : zeroOf Try.prog 65 = some (.nilFunc) := by kernel_rfl
theorem Try.by65 : byOf Try.prog 65 = some (.nilFunc, 1, 8) := by kernel_rfl
theorem Try.sz67 : szOf Try.prog 67 = some 1 := by kernel_rfl
theorem Try.zr67 : zeroOf Try.prog 67 = some (.nilFunc) := by kernel_rfl
theorem Try.by67 : byOf Try.prog 67 = some (.nilFunc, 1, 8) := by kernel_rfl
theorem Try.sz68 : szOf Try.prog 68 = some 1 := by kernel_rfl
theorem Try.zr68 : zeroOf Try.prog 68 = some (.nilFunc) := by kernel_rfl
theorem Try.by68 : byOf Try.prog 68 = some (.nilFunc, 1, 8) := by kernel_rfl
theorem Try.sz69 : szOf Try.prog 69 = some 1 := by kernel_rfl
theorem Try.zr69 : zeroOf Try.prog 69 = some (.nilFunc) := by kernel_rfl
theorem Try.by69 : byOf Try.prog 69 = some (.nilFunc, 1, 8) := by kernel_rfl
theorem Try.sz70 : szOf Try.prog 70 = some 1 := by kernel_rfl
theorem Try.zr70 : zeroOf Try.prog 70 = some (.slice none 0 0) := by kernel_rfl
theorem Try.by70 : byOf Try.prog 70 = some (.slice none 0 0, 1, 24) := by kernel_rfl
theorem Try.sz71 : szOf Try.prog 71 = some 1 := by kernel_rfl
theorem Try.zr71 : zeroOf Try.prog 71 = some (.nilFunc) := by kernel_rfl
theorem Try.by71 : byOf Try.prog 71 = some (.nilFunc, 1, 8) := by kernel_rfl
theorem Try.sz72 : szOf Try.prog 72 = some 1 := by kernel_rfl
theorem Try.zr72 : zeroOf Try.prog 72 = some (.nilFunc) := by kernel_rfl
theorem Try.by72 : byOf Try.prog 72 = some (.nilFunc, 1, 8) := by kernel_rfl
theorem Try.sz73 : szOf Try.prog 73 = some 1 := by kernel_rfl
theorem Try.zr73 : zeroOf Try.prog 73 = some (.nilFunc) := by kernel_rfl
theorem Try.by73 : byOf Try.prog 73 = some (.nilFunc, 1, 8) := by kernel_rfl
theorem Try.sz74 : szOf Try.prog 74 = some 1 := by kernel_rfl
theorem Try.zr74 : zeroOf Try.prog 74 = some (.nilFunc) := by kernel_rfl
theorem Try.by74 : byOf Try.prog 74 = some (.nilFunc, 1, 8) := by kernel_rfl
theorem Try.sz75 : szOf Try.prog 75 = some 1 := by kernel_rfl
theorem Try.zr75 : zeroOf Try.prog 75 = some (.nilFunc) := by kernel_rfl
theorem Try.by75 : byOf Try.prog 75 = some (.nilFunc, 1, 8) := by kernel_rfl
theorem Try.sz76 : szOf Try.prog 76 = some 1 := by kernel_rfl
theorem Try.zr76 : zeroOf Try.prog 76 = some (.nilFunc) := by kernel_rfl
theorem Try.by76 : byOf Try.prog 76 = some (.nilFunc, 1, 8) := by kernel_rfl
theorem Try.sz77 : szOf Try.prog 77 = some 1 := by kernel_rfl
theorem Try.zr77 : zeroOf Try.prog 77 = some (.map none) := by kernel_rfl
theorem Try.by77 : byOf Try.prog 77 = some (.map none, 1, 8) := by kernel_rfl
theorem Try.sz78 : szOf Try.prog 78 = some 1 := by kernel_rfl
theorem Try.zr78 : zeroOf Try.prog 78 = some (.nilFunc) := by kernel_rfl
theorem Try.by78 : byOf Try.prog 78 = some (.nilFunc, 1, 8) := by kernel_rfl
theorem Try.sz79 : szOf Try.prog 79 = some 1 := by kernel_rfl
theorem Try.zr79 : zeroOf Try.prog 79 = some (.nilFunc) := by kernel_rfl
theorem Try.by79 : byOf Try.prog 79 = some (.nilFunc, 1, 8) := by kernel_rfl
theorem Try.sz80 : szOf Try.prog 80 = some 1 := by kernel_rfl
theorem Try.zr80 : zeroOf Try.prog 80 = some (.nilFunc) := by kernel_rfl
theorem Try.by80 : byOf Try.prog 80 = some (.nilFunc, 1, 8) := by kernel_rfl
theorem Try.sz81 : szOf Try.prog 81 = some 1 := by kernel_rfl
theorem Try.zr81 : zeroOf Try.prog 81 = some (.nilFunc) := by kernel_rfl
theorem Try.by81 : byOf Try.prog 81 = some (.nilFunc, 1, 8) := by kernel_rfl
theorem Try.sz82 : szOf Try.prog 82 = some 1 := by kernel_rfl
theorem Try.zr82 : zeroOf Try.prog 82 = some (.map none) := by kernel_rfl
theorem Try.by82 : byOf Try.prog 82 = some (.map none, 1, 8) := by kernel_rfl
theorem Try.sz83 : szOf Try.prog 83 = some 1 := by kernel_rfl
theorem Try.zr83 : zeroOf Try.prog 83 = some (.agg #[.map none]) := by kernel_rfl
theorem Try.by83 : byOf Try.prog 83 = some (.agg #[.map none], 1, 8) := by kernel_rfl
theorem Try.ql83 : plOf Try.prog 83 = some [(0, 1)] := by kernel_rfl
theorem Try.pl83 : (match Program.underlying Try.prog 83 with | some (.struct fs) => placesOf Try.prog fs.toList | _ => none) = some [(0, 1)] := by kernel_rfl
theorem Try.sz84 : szOf Try.prog 84 = some 1 := by kernel_rfl
theorem Try.zr84 : zeroOf Try.prog 84 = some (.agg #[.map none]) := by kernel_rfl
theorem Try.by84 : byOf Try.prog 84 = some (.agg #[.map none], 1, 8) := by kernel_rfl
theorem Try.ql84 : plOf Try.prog 84 = some [(0, 1)] := by kernel_rfl
theorem Try.pl84 : (match Program.underlying Try.prog 84 with | some (.struct fs) => placesOf Try.prog fs.toList | _ => none) = some [(0, 1)] := by kernel_rfl
theorem Try.sz85 : szOf Try.prog 85 = some 83 := by kernel_rfl
theorem Try.zr85 : zeroOf Try.prog 85 = some (.agg #[.bool false, .int .u8 0, .int .u8 0, .int .u8 0, .int .u8 0, .int .u8 0, .int .u8 0, .int .u8 0, .int .u8 0, .int .u8 0, .int .u8 0, .int .u8 0, .int .u8 0, .int .u8 0, .int .u8 0, .int .u8 0, .int .u8 0, .int .u8 0, .int .u8 0, .int .u8 0, .int .u8 0, .int .u8 0, .int .u8 0, .int .u8 0, .int .u8 0, .int .u8 0, .int .u8 0, .int .u8 0, .int .u8 0, .int .u8 0, .int .u8 0, .int .u8 0, .int .u8 0, .int .u8 0, .int .u8 0, .int .u8 0, .int .u8 0, .int .u8 0, .int .u8 0, .int .u8 0, .int .u8 0, .int .u8 0, .int .u8 0, .int .u8 0, .int .u8 0, .int .u8 0, .int .u8 0, .int .u8 0, .int .u8 0, .int .i64 0, .int .u8 0, .int .u8 0, .int .u8 0, .int .u8 0, .int .u8 0, .int .u8 0, .int .u8 0, .int .u8 0, .int .u8 0, .int .u8 0, .int .u8 0, .int .u8 0, .int .u8 0, .int .u8 0, .int .u8 0, .int .u8 0, .int .u8 0, .int .u8 0, .int .u8 0, .int .u8 0, .int .u8 0, .int .u8 0, .int .u8 0, .int .u8 0, .int .u8 0, .int .u8 0, .int .u8 0, .int .u8 0, .int .u8 0, .int .u8 0, .int .u8 0, .int .u8 0, .int .u8 0]) := by kernel_rfl
theorem Try.by85 : byOf Try.prog 85 = some (.agg #[.bool false, .int .u8 0, .int .u8 0, .int .u8 0, .int .u8 0, .int .u8 0, .int .u8 0, .int .u8 0, .int .u8 0, .int .u8 0, .int .u8 0, .int .u8 0, .int .u8 0, .int .u8 0, .int .u8 0, .int .u8 0, .int .u8 0, .int .u8 0, .int .u8 0, .int .u8 0, .int .u8 0, .int .u8 0, .int .u8 0, .int .u8 0, .int .u8 0, .int .u8 0, .int .u8 0, .int .u8 0, .int .u8 0, .int .u8 0, .int .u8 0, .int .u8 0, .int .u8 0, .int .u8 0, .int .u8 0, .int .u8 0, .int .u8 0, .int .u8 0, .int .u8 0, .int .u8 0, .int .u8 0, .int .u8 0, .int .u8 0, .int .u8 0, .int .u8 0, .int .u8 0, .int .u8 0, .int .u8 0, .int .u8 0, .int .i64 0, .int .u8 0, .int .u8 0, .int .u8 0, .int .u8 0, .int .u8 0, .int .u8 0, .int .u8 0, .int .u8 0, .int .u8 0, .int .u8 0, .int .u8 0, .int .u8 0, .int .u8 0, .int .u8 0, .int .u8 0, .int .u8 0, .int .u8 0, .int .u8 0, .int .u8 0, .int .u8 0, .int .u8 0, .int .u8 0, .int .u8 0, .int .u8 0, .int .u8 0, .int .u8 0, .int .u8 0, .int .u8 0, .int .u8 0, .int .u8 0, .int .u8 0, .int .u8 0, .int .u8 0], 83, 104) := by kernel_rfl
theorem Try.ql85 : plOf Try.prog 85 = some [(0, 1), (1, 82)] := by kernel_rfl
theorem Try.pl85 : (match Program.underlying Try.prog 85 with | some (.struct fs) => placesOf Try.prog fs.toList | _ => none) = some [(0, 1), (1, 82)] := by kernel_rfl
theorem Try.sz86 : szOf Try.prog 86 = some 83 := by kernel_rfl
theorem Try.zr86 : zeroOf Try.prog 86 = some (.agg #[.bool false, .int .u8 0, .int .u8 0, .int .u8 0, .int .u8 0, .int .u8 0, .int .u8 0, .int .u8 0, .int .u8 0, .int .u8 0, .int .u8 0, .int .u8 0, .int .u8 0, .int .u8 0, .int .u8 0, .int .u8 0, .int .u8 0, .int .u8 0, .int .u8 0, .int .u8 0, .int .u8 0, .int .u8 0, .int .u8 0, .int .u8 0, .int .u8 0, .int .u8 0, .int .u8 0, .int .u8 0, .int .u8 0, .int .u8 0, .int .u8 0, .int .u8 0, .int .u8 0, .int .u8 0, .int .u8 0, .int .u8 0, .int .u8 0, .int .u8 0, .int .u8 0, .int .u8 0, .int .u8 0, .int .u8 0, .int .u8 0, .int .u8 0, .int .u8 0, .int .u8 0, .int .u8 0, .int .u8 0, .int .u8 0, .int .i64 0, .int .u8 0, .int .u8 0, .int .u8 0, .int .u8 0, .int .u8 0, .int .u8 0, .int .u8 0, .int .u8 0, .int .u8 0, .int .u8 0, .int .u8 0, .int .u8 0, .int .u8 0, .int .u8 0, .int .u8 0, .int .u8 0, .int .u8 0, .int .u8 0, .int .u8 0, .int .u8 0, .int .u8 0, .int .u8 0, .int .u8 0, .int .u8 0, .int .u8 0, .int .u8 0, .int .u8 0, .int .u8 0, .int .u8 0, .int .u8 0, .int .u8 0, .int .u8 0, .int .u8 0]) := by kernel_rfl
theorem Try.by86 : byOf Try.prog 86 = some (.agg #[.bool false, .int .u8 0, .int .u8 0, .int .u8 0, .int .u8 0, .int .u8 0, .int .u8 0, .int .u8 0, .int .u8 0, .int .u8 0, .int .u8 0, .int .u8 0, .int .u8 0, .int .u8 0, .int .u8 0, .int .u8 0, .int .u8 0, .int .u8 0, .int .u8 0, .int .u8 0, .int .u8 0, .int .u8 0, .int .u8 0, .int .u8 0, .int .u8 0, .int .u8 0, .int .u8 0, .int .u8 0, .int .u8 0, .int .u8 0, .int .u8 0, .int .u8 0, .int .u8 0, .int .u8 0, .int .u8 0, .int .u8 0, .int .u8 0, .int .u8 0, .int .u8 0, .int .u8 0, .int .u8 0, .int .u8 0, .int .u8 0, .int .u8 0, .int .u8 0, .int .u8 0, .int .u8 0, .int .u8 0, .int .u8 0, .int .i64 0, .int .u8 0, .int .u8 0, .int .u8 0, .int .u8 0, .int .u8 0, .int .u8 0, .int .u8 0, .int .u8 0, .int .u8 0, .int .u8 0, .int .u8 0, .int .u8 0, .int .u8 0, .int .u8 0, .int .u8 0, .int .u8 0, .int .u8 0, .int .u8 0, .int .u8 0, .int .u8 0, .int .u8 0, .int .u8 0, .int .u8 0, .int .u8 0, .int .u8 0, .int .u8 0, .int .u8 0, .int .u8 0, .int .u8 0, .int .u8 0, .int .u8 0, .int .u8 0, .int .u8 0], 83, 104) := by kernel_rfl
theorem Try.ql86 : plOf Try.prog 86 = some [(0, 1), (1, 82)] := by kernel_rfl
theorem Try.pl86 : (match Program.underlying Try.prog 86 with | some (.struct fs) => placesOf Try.prog fs.toList | _ => none) = some [(0, 1), (1, 82)] := by kernel_rfl
theorem Try.sz88 : szOf Try.prog 88 = some 1 := by kernel_rfl
theorem Try.zr88 : zeroOf Try.prog 88 = some (.nilFunc) := by kernel_rfl
theorem Try.by88 : byOf Try.prog 88 = some (.nilFunc, 1, 8) := by kernel_rfl
theorem Try.sz89 : szOf Try.prog 89 = some 1 := by kernel_rfl
theorem Try.zr89 : zeroOf Try.prog 89 = some (.nilFunc) := by kernel_rfl
theorem Try.by89 : byOf Try.prog 89 = some (.nilFunc, 1, 8) := by kernel_rfl
theorem Try.sz90 : szOf Try.prog 90 = some 1 := by kernel_rfl
theorem Try.zr90 : zeroOf Try.prog 90 = some (.nilFunc) := by kernel_rfl
theorem Try.by90 : byOf Try.prog 90 = some (.nilFunc, 1, 8) := by kernel_rfl
theorem Try.sz92 : szOf Try.prog 92 = some 1 := by kernel_rfl
theorem Try.zr92 : zeroOf Try.prog 92 = some (.nilFunc) := by kernel_rfl
theorem Try.by92 : byOf Try.prog 92 = some (.nilFunc, 1, 8) := by kernel_rfl
theorem Try.sz93 : szOf Try.prog 93 = some 1 := by kernel_rfl
theorem Try.zr93 : zeroOf Try.prog 93 = some (.nilFunc) := by kernel_rfl
theorem Try.by93 : byOf Try.prog 93 = some (.nilFunc, 1, 8) := by kernel_rfl
theorem Try.sz94 : szOf Try.prog 94 = some 1 := by kernel_rfl
theorem Try.zr94 : zeroOf Try.prog 94 = some (.nilFunc) := by kernel_rfl
theorem Try.by94 : byOf Try.prog 94 = some (.nilFunc, 1, 8) := by kernel_rfl
theorem Try.sz95 : szOf Try.prog 95 = some 1 := by kernel_rfl
theorem Try.zr95 : zeroOf Try.prog 95 = some (.nilFunc) := by kernel_rfl
theorem Try.by95 : byOf Try.prog 95 = some (.nilFunc, 1, 8) := by kernel_rfl
theorem Try.sz96 : szOf Try.prog 96 = some 1 := by kernel_rfl
theorem Try.zr96 : zeroOf Try.prog 96 = some (.nilFunc) := by kernel_rfl
theorem Try.by96 : byOf Try.prog 96 = some (.nilFunc, 1, 8) := by kernel_rfl
theorem Try.sz97 : szOf Try.prog 97 = some 1 := by kernel_rfl
theorem Try.zr97 : zeroOf Try.prog 97 = some (.nilFunc) := by kernel_rfl
theorem Try.by97 : byOf Try.prog 97 = some (.nilFunc, 1, 8) := by kernel_rfl
theorem Try.sz98 : szOf Try.prog 98 = some 1 := by kernel_rfl
theorem Try.zr98 : zeroOf Try.prog 98 = some (.nilFunc) := by kernel_rfl
theorem Try.by98 : byOf Try.prog 98 = some (.nilFunc, 1, 8) := by kernel_rfl
theorem Try.sz99 : szOf Try.prog 99 = some 1 := by kernel_rfl
theorem Try.zr99 : zeroOf Try.prog 99 = some (.nilFunc) := by kernel_rfl
theorem Try.by99 : byOf Try.prog 99 = some (.nilFunc, 1, 8) := by kernel_rfl
theorem Try.sz100 : szOf Try.prog 100 = some 1 := by kernel_rfl
theorem Try.zr100 : zeroOf Try.prog 100 = some (.nilFunc) := by kernel_rfl
theorem Try.by100 : byOf Try.prog 100 = some (.nilFunc, 1, 8) := by kernel_rfl
theorem Try.sz101 : szOf Try.prog 101 = some 1 := by kernel_rfl
theorem Try.zr101 : zeroOf Try.prog 101 = some (.nilFunc) := by kernel_rfl
theorem Try.by101 : byOf Try.prog 101 = some (.nilFunc, 1, 8) := by kernel_rfl
theorem Try.sz102 : szOf Try.prog 102 = some 1 := by kernel_rfl
theorem Try.zr102 : zeroOf Try.prog 102 = some (.nilFunc) := by kernel_rfl
theorem Try.by102 : byOf Try.prog 102 = some (.nilFunc, 1, 8) := by kernel_rfl
theorem Try.sz103 : szOf Try.prog 103 = some 1 := by kernel_rfl
theorem Try.zr103 : zeroOf Try.prog 103 = some (.nilFunc) := by kernel_rfl
theorem Try.by103 : byOf Try.prog 103 = some (.nilFunc, 1, 8) := by kernel_rfl
theorem Try.sz104 : szOf Try.prog 104 = some 1 := by kernel_rfl
theorem Try.zr104 : zeroOf Try.prog 104 = some (.nilFunc) := by kernel_rfl
theorem Try.by104 : byOf Try.prog 104 = some (.nilFunc, 1, 8) := by kernel_rfl
theorem Try.sz105 : szOf Try.prog 105 = some 1 := by kernel_rfl
theorem Try.zr105 : zeroOf Try.prog 105 = some (.slice none 0 0) := by kernel_rfl
theorem Try.by105 : byOf Try.prog 105 = some (.slice none 0 0, 1, 24) := by kernel_rfl
theorem Try.sz106 : szOf Try.prog 106 = some 1 := by kernel_rfl
theorem Try.zr106 : zeroOf Try.prog 106 = some (.map none) := by kernel_rfl
theorem Try.by106 : byOf Try.prog 106 = some (.map none, 1, 8) := by kernel_rfl
theorem Try.sz107 : szOf Try.prog 107 = some 1 := by kernel_rfl
theorem Try.zr107 : zeroOf Try.prog 107 = some (.nilFunc) := by kernel_rfl
theorem Try.by107 : byOf Try.prog 107 = some (.nilFunc, 1, 8) := by kernel_rfl
theorem Try.sz108 : szOf Try.prog 108 = some 1 := by kernel_rfl
theorem Try.zr108 : zeroOf Try.prog 108 = some (.nilFunc) := by kernel_rfl
theorem Try.by108 : byOf Try.prog 108 = some (.nilFunc, 1, 8) := by kernel_rfl
theorem Try.sz109 : szOf Try.prog 109 = some 1 := by kernel_rfl
theorem Try.zr109 : zeroOf Try.prog 109 = some (.nilFunc) := by kernel_rfl
theorem Try.by109 : byOf Try.prog 109 = some (.nilFunc, 1, 8) := by kernel_rfl
theorem Try.sz110 : szOf Try.prog 110 = some 1 := by kernel_rfl
theorem Try.zr110 : zeroOf Try.prog 110 = some (.nilFunc) := by kernel_rfl
theorem Try.by110 : byOf Try.prog 110 = some (.nilFunc, 1, 8) := by kernel_rfl
theorem Try.sz111 : szOf Try.prog 111 = some 1 := by kernel_rfl
theorem Try.zr111 : zeroOf Try.prog 111 = some (.nilFunc) := by kernel_rfl
theorem Try.by111 : byOf Try.prog 111 = some (.nilFunc, 1, 8) := by kernel_rfl
theorem Try.sz112 : szOf Try.prog 112 = some 1 := by kernel_rfl
theorem Try.zr112 : zeroOf Try.prog 112 = some (.nilFunc) := by kernel_rfl
theorem Try.by112 : byOf Try.prog 112 = some (.nilFunc, 1, 8) := by kernel_rfl
theorem Try.sz113 : szOf Try.prog 113 = some 1 := by kernel_rfl
theorem Try.zr113 : zeroOf Try.prog 113 = some (.nilFunc) := by kernel_rfl
theorem Try.by113 : byOf Try.prog 113 = some (.nilFunc, 1, 8) := by kernel_rfl
theorem Try.sz114 : szOf Try.prog 114 = some 1 := by kernel_rfl
theorem Try.zr114 : zeroOf Try.prog 114 = some (.nilFunc) := by kernel_rfl
theorem Try.by114 : byOf Try.prog 114 = some (.nilFunc, 1, 8) := by kernel_rfl
theorem Try.sz115 : szOf Try.prog 115 = some 1 := by kernel_rfl
theorem Try.zr115 : zeroOf Try.prog 115 = some (.nilFunc) := by kernel_rfl
theorem Try.by115 : byOf Try.prog 115 = some (.nilFunc, 1, 8) := by kernel_rfl
theorem Try.sz116 : szOf Try.prog 116 = some 1 := by kernel_rfl
theorem Try.zr116 : zeroOf Try.prog 116 = some (.nilFunc) := by kernel_rfl
theorem Try.by116 : byOf Try.prog 116 = some (.nilFunc, 1, 8) := by kernel_rfl
theorem Try.sz117 : szOf Try.prog 117 = some 1 := by kernel_rfl
theorem Try.zr117 : zeroOf Try.prog 117 = some (.nilFunc) := by kernel_rfl
theorem Try.by117 : byOf Try.prog 117 = some (.nilFunc, 1, 8) := by kernel_rfl
theorem Try.sz118 : szOf Try.prog 118 = some 1 := by kernel_rfl
theorem Try.zr118 : zeroOf Try.prog 118 = some (.nilFunc) := by kernel_rfl
theorem Try.by118 : byOf Try.prog 118 = some (.nilFunc, 1, 8) := by kernel_rfl
theorem Try.sz119 : szOf Try.prog 119 = some 1 := by kernel_rfl
theorem Try.zr119 : zeroOf Try.prog 119 = some (.nilFunc) := by kernel_rfl
theorem Try.by119 : byOf Try.prog 119 = some (.nilFunc, 1, 8) := by kernel_rfl
theorem Try.sz120 : szOf Try.prog 120 = some 1 := by kernel_rfl
theorem Try.zr120 : zeroOf Try.prog 120 = some (.nilFunc) := by kernel_rfl
theorem Try.by120 : byOf Try.prog 120 = some (.nilFunc, 1, 8) := by kernel_rfl
theorem Try.sz121 : szOf Try.prog 121 = some 1 := by kernel_rfl
theorem Try.zr121 : zeroOf Try.prog 121 = some (.nilFunc) := by kernel_rfl
theorem Try.by121 : byOf Try.prog 121 = some (.nilFunc, 1, 8) := by kernel_rfl
theorem Try.sz122 : szOf Try.prog 122 = some 1 := by kernel_rfl
theorem Try.zr122 : zeroOf Try.prog 122 = some (.int .u64 0) := by kernel_rfl
theorem Try.by122 : byOf Try.prog 122 = some (.int .u64 0, 1, 8) := by kernel_rfl
theorem Try.sz123 : szOf Try.prog 123 = some 1 := by kernel_rfl
theorem Try.zr123 : zeroOf Try.prog 123 = some (.nilFunc) := by kernel_rfl
theorem Try.by123 : byOf Try.prog 123 = some (.nilFunc, 1, 8) := by kernel_rfl
theorem Try.sz124 : szOf Try.prog 124 = some 1 := by kernel_rfl
theorem Try.zr124 : zeroOf Try.prog 124 = some (.nilFunc) := by kernel_rfl
theorem Try.by124 : byOf Try.prog 124 = some (.nilFunc, 1, 8) := by kernel_rfl
theorem Try.sz125 : szOf Try.prog 125 = some 1 := by kernel_rfl
theorem Try.zr125 : zeroOf Try.prog 125 = some (.nilFunc) := by kernel_rfl
theorem Try.by125 : byOf Try.prog 125 = some (.nilFunc, 1, 8) := by kernel_rfl
theorem Try.sz126 : szOf Try.prog 126 = some 1 := by kernel_rfl
theorem Try.zr126 : zeroOf Try.prog 126 = some (.nilFunc) := by kernel_rfl
theorem Try.by126 : byOf Try.prog 126 = some (.nilFunc, 1, 8) := by kernel_rfl
theorem Try.sz127 : szOf Try.prog 127 = some 1 := by kernel_rfl
theorem Try.zr127 : zeroOf Try.prog 127 = some (.int .i64 0) := by kernel_rfl
theorem Try.by127 : byOf Try.prog 127 = some (.int .i64 0, 1, 8) := by kernel_rfl
theorem Try.sz129 : szOf Try.prog 129 = some 1 := by kernel_rfl
theorem Try.zr129 : zeroOf Try.prog 129 = some (.nilFunc) := by kernel_rfl
theorem Try.by129 : byOf Try.prog 129 = some (.nilFunc, 1, 8) := by kernel_rfl
theorem Try.sz130 : szOf Try.prog 130 = some 1 := by kernel_rfl
theorem Try.zr130 : zeroOf Try.prog 130 = some (.nilFunc) := by kernel_rfl
theorem Try.by130 : byOf Try.prog 130 = some (.nilFunc, 1, 8) := by kernel_rfl
theorem Try.sz131 : szOf Try.prog 131 = some 1 := by kernel_rfl
theorem Try.zr131 : zeroOf Try.prog 131 = some (.nilFunc) := by kernel_rfl
theorem Try.by131 : byOf Try.prog 131 = some (.nilFunc, 1, 8) := by kernel_rfl
theorem Try.sz133 : szOf Try.prog 133 = some 1 := by kernel_rfl
theorem Try.zr133 : zeroOf Try.prog 133 = some (.nilFunc) := by kernel_rfl
theorem Try.by133 : byOf Try.prog 133 = some (.nilFunc, 1, 8) := by kernel_rfl
theorem Try.sz134 : szOf Try.prog 134 = some 1 := by kernel_rfl
theorem Try.zr134 : zeroOf Try.prog 134 = some (.nilFunc) := by kernel_rfl
theorem Try.by134 : byOf Try.prog 134 = some (.nilFunc, 1, 8) := by kernel_rfl
theorem Try.sz135 : szOf Try.prog 135 = some 1 := by kernel_rfl
theorem Try.zr135 : zeroOf Try.prog 135 = some (.int .u32 0) := by kernel_rfl
theorem Try.by135 : byOf Try.prog 135 = some (.int .u32 0, 1, 4) := by kernel_rfl
theorem Try.sz136 : szOf Try.prog 136 = some 1 := by kernel_rfl
theorem Try.zr136 : zeroOf Try.prog 136 = some (.nilFunc) := by kernel_rfl
theorem Try.by136 : byOf Try.prog 136 = some (.nilFunc, 1, 8) := by kernel_rfl
theorem Try.sz137 : szOf Try.prog 137 = some 1 := by kernel_rfl
theorem Try.zr137 : zeroOf Try.prog 137 = some (.int .u64 0) := by kernel_rfl
theorem Try.by137 : byOf Try.prog 137 = some (.int .u64 0, 1, 8) := by kernel_rfl
theorem Try.sz138 : szOf Try.prog 138 = some 1 := by kernel_rfl
theorem Try.zr138 : zeroOf Try.prog 138 = some (.nilFunc) := by kernel_rfl
theorem Try.by138 : byOf Try.prog 138 = some (.nilFunc, 1, 8) := by kernel_rfl
theorem Try.sz139 : szOf Try.prog 139 = some 1 := by kernel_rfl
theorem Try.zr139 : zeroOf Try.prog 139 = some (.nilFunc) := by kernel_rfl
theorem Try.by139 : byOf Try.prog 139 = some (.nilFunc, 1, 8) := by kernel_rfl
theorem Try.sz140 : szOf Try.prog 140 = some 1 := by kernel_rfl
theorem Try.zr140 : zeroOf Try.prog 140 = some (.nilFunc) := by kernel_rfl
theorem Try.by140 : byOf Try.prog 140 = some (.nilFunc, 1, 8) := by kernel_rfl
theorem Try.sz141 : szOf Try.prog 141 = some 1 := by kernel_rfl
theorem Try.zr141 : zeroOf Try.prog 141 = some (.nilFunc) := by kernel_rfl
theorem Try.by141 : byOf Try.prog 141 = some (.nilFunc, 1, 8) := by kernel_rfl
theorem Try.sz142 : szOf Try.prog 142 = some 1 := by kernel_rfl
theorem Try.zr142 : zeroOf Try.prog 142 = some (.nilFunc) := by kernel_rfl
theorem Try.by142 : byOf Try.prog 142 = some (.nilFunc, 1, 8) := by kernel_rfl
theorem Try.sz143 : szOf Try.prog 143 = some 1 := by kernel_rfl
theorem Try.zr143 : zeroOf Try.prog 143 = some (.nilFunc) := by kernel_rfl
theorem Try.by143 : byOf Try.prog 143 = some (.nilFunc, 1, 8) := by kernel_rfl
theorem Try.sz144 : szOf Try.prog 144 = some 1 := by kernel_rfl
theorem Try.zr144 : zeroOf Try.prog 144 = some (.int .u64 0) := by kernel_rfl
theorem Try.by144 : byOf Try.prog 144 = some (.int .u64 0, 1, 8) := by kernel_rfl
theorem Try.sz145 : szOf Try.prog 145 = some 1 := by kernel_rfl
theorem Try.zr145 : zeroOf Try.prog 145 = some (.nilFunc) := by kernel_rfl
theorem Try.by145 : byOf Try.prog 145 = some (.nilFunc, 1, 8) := by kernel_rfl
theorem Try.sz146 : szOf Try.prog 146 = some 1 := by kernel_rfl
theorem Try.zr146 : zeroOf Try.prog 146 = some (.nilFunc) := by kernel_rfl
theorem Try.by146 : byOf Try.prog 146 = some (.nilFunc, 1, 8) := by kernel_rfl
theorem Try.sz147 : szOf Try.prog 147 = some 1 := by kernel_rfl
theorem Try.zr147 : zeroOf Try.prog 147 = some (.nilFunc) := by kernel_rfl
theorem Try.by147 : byOf Try.prog 147 = some (.nilFunc, 1, 8) := by kernel_rfl
theorem Try.sz148 : szOf Try.prog 148 = some 1 := by kernel_rfl
theorem Try.zr148 : zeroOf Try.prog 148 = some (.pointer none) := by kernel_rfl
theorem Try.by148 : byOf Try.prog 148 = some (.pointer none, 1, 8) := by kernel_rfl
theorem Try.sz149 : szOf Try.prog 149 = some 1 := by kernel_rfl
theorem Try.zr149 : zeroOf Try.prog 149 = some (.nilFunc) := by kernel_rfl
theorem Try.by149 : byOf Try.prog 149 = some (.nilFunc, 1, 8) := by kernel_rfl
theorem Try.sz150 : szOf Try.prog 150 = some 1 := by kernel_rfl
theorem Try.zr150 : zeroOf Try.prog 150 = some (.nilFunc) := by kernel_rfl
theorem Try.by150 : byOf Try.prog 150 = some (.nilFunc, 1, 8) := by kernel_rfl
theorem Try.sz151 : szOf Try.prog 151 = some 1 := by kernel_rfl
theorem Try.zr151 : zeroOf Try.prog 151 = some (.nilFunc) := by kernel_rfl
theorem Try.by151 : byOf Try.prog 151 = some (.nilFunc, 1, 8) := by kernel_rfl
theorem Try.sz152 : szOf Try.prog 152 = some 1 := by kernel_rfl
theorem Try.zr152 : zeroOf Try.prog 152 = some (.pointer none) := by kernel_rfl
theorem Try.by152 : byOf Try.prog 152 = some (.pointer none, 1, 8) := by kernel_rfl
theorem Try.sz153 : szOf Try.prog 153 = some 1 := by kernel_rfl
theorem Try.zr153 : zeroOf Try.prog 153 = some (.nilFunc) := by kernel_rfl
theorem Try.by153 : byOf Try.prog 153 = some (.nilFunc, 1, 8) := by kernel_rfl
theorem Try.sz154 : szOf Try.prog 154 = some 1 := by kernel_rfl
theorem Try.zr154 : zeroOf Try.prog 154 = some (.nilFunc) := by kernel_rfl
theorem Try.by154 : byOf Try.prog 154 = some (.nilFunc, 1, 8) := by kernel_rfl
theorem Try.sz155 : szOf Try.prog 155 = some 1 := by kernel_rfl
theorem Try.zr155 : zeroOf Try.prog 155 = some (.nilFunc) := by kernel_rfl
theorem Try.by155 : byOf Try.prog 155 = some (.nilFunc, 1, 8) := by kernel_rfl
theorem Try.sz156 : szOf Try.prog 156 = some 4 := by kernel_rfl
theorem Try.zr156 : zeroOf Try.prog 156 = some (.agg #[.pointer none, .pointer none, .pointer none, .string ⟨#[]⟩]) := by kernel_rfl
theorem Try.by156 : byOf Try.prog 156 = some (.agg #[.pointer none, .pointer none, .pointer none, .string ⟨#[]⟩], 4, 40) := by kernel_rfl
theorem Try.ql156 : plOf Try.prog 156 = some [(0, 1), (1, 1), (2, 1), (3, 1)] := by kernel_rfl
theorem Try.pl156 : (match Program.underlying Try.prog 156 with | some (.struct fs) => placesOf Try.prog fs.toList | _ => none) = some [(0, 1), (1, 1), (2, 1), (3, 1)] := by kernel_rfl
theorem Try.sz157 : szOf Try.prog 157 = some 4 := by kernel_rfl
theorem Try.zr157 : zeroOf Try.prog 157 = some (.agg #[.pointer none, .pointer none, .pointer none, .string ⟨#[]⟩]) := by kernel_rfl
theorem Try.by157 : byOf Try.prog 157 = some (.agg #[.pointer none, .pointer none, .pointer none, .string ⟨#[]⟩], 4, 40) := by kernel_rfl
theorem Try.ql157 : plOf Try.prog 157 = some [(0, 1), (1, 1), (2, 1), (3, 1)] := by kernel_rfl
theorem Try.pl157 : (match Program.underlying Try.prog 157 with | some (.struct fs) => placesOf Try.prog fs.toList | _ => none) = some [(0, 1), (1, 1), (2, 1), (3, 1)] := by kernel_rfl
theorem Try.sz158 : szOf Try.prog 158 = some 0 := by kernel_rfl
theorem Try.zr158 : zeroOf Try.prog 158 = some (.agg #[]) := by kernel_rfl
theorem Try.by158 : byOf Try.prog 158 = some (.agg #[], 0, 0) := by kernel_rfl
theorem Try.sz159 : szOf Try.prog 159 = some 0 := by kernel_rfl
theorem Try.zr159 : zeroOf Try.prog 159 = some (.agg #[]) := by kernel_rfl
theorem Try.by159 : byOf Try.prog 159 = some (.agg #[], 0, 0) := by kernel_rfl
theorem Try.ql159 : plOf Try.prog 159 = some [(0, 0)] := by kernel_rfl
theorem Try.pl159 : (match Program.underlying Try.prog 159 with | some (.struct fs) => placesOf Try.prog fs.toList | _ => none) = some [(0, 0)] := by kernel_rfl
theorem Try.sz160 : szOf Try.prog 160 = some 0 := by kernel_rfl
theorem Try.zr160 : zeroOf Try.prog 160 = some (.agg #[]) := by kernel_rfl
theorem Try.by160 : byOf Try.prog 160 = some (.agg #[], 0, 0) := by kernel_rfl
theorem Try.ql160 : plOf Try.prog 160 = some [(0, 0)] := by kernel_rfl
theorem Try.pl160 : (match Program.underlying Try.prog 160 with | some (.struct fs) => placesOf Try.prog fs.toList | _ => none) = some [(0, 0)] := by kernel_rfl
theorem Try.sz161 : szOf Try.prog 161 = some 1 := by kernel_rfl
theorem Try.zr161 : zeroOf Try.prog 161 = some (.int .u8 0) := by kernel_rfl
theorem Try.by161 : byOf Try.prog 161 = some (.int .u8 0, 1, 1) := by kernel_rfl
theorem Try.sz162 : szOf Try.prog 162 = some 1 := by kernel_rfl
theorem Try.zr162 : zeroOf Try.prog 162 = some (.int .u8 0) := by kernel_rfl
theorem Try.by162 : byOf Try.prog 162 = some (.int .u8 0, 1, 1) := by kernel_rfl
theorem Try.sz163 : szOf Try.prog 163 = some 1 := by kernel_rfl
theorem Try.zr163 : zeroOf Try.prog 163 = some (.nilFunc) := by kernel_rfl
theorem Try.by163 : byOf Try.prog 163 = some (.nilFunc, 1, 8) := by kernel_rfl
theorem Try.sz164 : szOf Try.prog 164 = some 1 := by kernel_rfl
theorem Try.zr164 : zeroOf Try.prog 164 = some (.pointer none) := by kernel_rfl
theorem Try.by164 : byOf Try.prog 164 = some (.pointer none, 1, 8) := by kernel_rfl
theorem Try.sz165 : szOf Try.prog 165 = some 1 := by kernel_rfl
theorem Try.zr165 : zeroOf Try.prog 165 = some (.int .i32 0) := by kernel_rfl
theorem Try.by165 : byOf Try.prog 165 = some (.int .i32 0, 1, 4) := by kernel_rfl
theorem Try.sz166 : szOf Try.prog 166 = some 1 := by kernel_rfl
theorem Try.zr166 : zeroOf Try.prog 166 = some (.int .i32 0) := by kernel_rfl
theorem Try.by166 : byOf Try.prog 166 = some (.int .i32 0, 1, 4) := by kernel_rfl
theorem Try.sz167 : szOf Try.prog 167 = some 11 := by kernel_rfl
theorem Try.zr167 : zeroOf Try.prog 167 = some (.agg #[.int .u64 0, .int .u64 0, .int .u32 0, .int .u8 0, .int .u8 0, .int .u8 0, .int .u8 0, .nilFunc, .pointer none, .int .i32 0, .int .i32 0]) := by kernel_rfl
theorem Try.by167 : byOf Try.prog 167 = some (.agg #[.int .u64 0, .int .u64 0, .int .u32 0, .int .u8 0, .int .u8 0, .int .u8 0, .int .u8 0, .nilFunc, .pointer none, .int .i32 0, .int .i32 0], 11, 48) := by kernel_rfl
theorem Try.ql167 : plOf Try.prog 167 = some [(0, 1), (1, 1), (2, 1), (3, 1), (4, 1), (5, 1), (6, 1), (7, 1), (8, 1), (9, 1), (10, 1)] := by kernel_rfl
theorem Try.pl167 : (match Program.underlying Try.prog 167 with | some (.struct fs) => placesOf Try.prog fs.toList | _ => none) = some [(0, 1), (1, 1), (2, 1), (3, 1), (4, 1), (5, 1), (6, 1), (7, 1), (8, 1), (9, 1), (10, 1)] := by kernel_rfl
theorem Try.sz168 : szOf Try.prog 168 = some 11 := by kernel_rfl
theorem Try.zr168 : zeroOf Try.prog 168 = some (.agg #[.int .u64 0, .int .u64 0, .int .u32 0, .int .u8 0, .int .u8 0, .int .u8 0, .int .u8 0, .nilFunc, .pointer none, .int .i32 0, .int .i32 0]) := by kernel_rfl
theorem Try.by168 : byOf Try.prog 168 = some (.agg #[.int .u64 0, .int .u64 0, .int .u32 0, .int .u8 0, .int .u8 0, .int .u8 0, .int .u8 0, .nilFunc, .pointer none, .int .i32 0, .int .i32 0], 11, 48) := by kernel_rfl
theorem Try.ql168 : plOf Try.prog 168 = some [(0, 1), (1, 1), (2, 1), (3, 1), (4, 1), (5, 1), (6, 1), (7, 1), (8, 1), (9, 1), (10, 1)] := by kernel_rfl
theorem Try.pl168 : (match Program.underlying Try.prog 168 with | some (.struct fs) => placesOf Try.prog fs.toList | _ => none) = some [(0, 1), (1, 1), (2, 1), (3, 1), (4, 1), (5, 1), (6, 1), (7, 1), (8, 1), (9, 1), (10, 1)] := by kernel_rfl
end Go.Proofs.Ytmjmichghfepkaa
