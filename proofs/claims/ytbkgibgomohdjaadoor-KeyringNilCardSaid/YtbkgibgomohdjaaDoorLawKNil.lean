/-
  KeyringNil returns true for every roll-over and every number: what the operations do on a nil keyring. No condition but the listed table (tied to the program's text).
-/
import Derived.Test.YtbkgibgomohdjaaDoorKrL
import Derived.Test.YtbkgibgomohdjaaDoorKrN
import Derived.Test.YtbkgibgomohdjaaDoorEngTab
namespace Go.Proofs.YtbkgibgomohdjaaDoor
open Go.Eng Go.RowKit Go.Sort
theorem knil_walk (w : World) (hkc : HasKc (Kn.of w)) (v1 : Value) (a1 : ArgV Tryd.prog w 41 v1) (v2 : Value) (a2 : ArgV Tryd.prog w 3 v2) : Ret Tryd.prog 10 #[v1, v2] w fun r w' => r = .bool true ∧ Mod [] w w' := by
  obtain ⟨m, rfl⟩ := argv_mv a1
  obtain ⟨n, rfl, _⟩ := argv_int a2 Tryd.underlying3
  have hs := Sat.start w
  have q5 := encV_len kvz
  have q7 := encK_len kz
  refine Ret.enter (n := 132) (args := [.agg (encMv m).toArray, .int .i64 n]) Tryd.func10 rfl rfl ?_
  refine C.keep [(0, _), (1, _)] ⟨rfl, rfl, trivial⟩ ?_
  refine C.seq ?_
  refine C.region ?_
  refine R.sboxA hs rfl rfl ?_
  intro b2 w2 hs
  refine R.ev rfl (E.assign rfl) ?_
  refine R.done ?_
  refine X.keep [(1, _), (2, _)] ⟨rfl, rfl, trivial⟩ ?_
  refine X.next ?_
  refine C.seq ?_
  refine C.region ?_
  refine R.ev rfl (E.assign rfl) ?_
  refine R.done ?_
  refine X.keep [(1, _), (2, _), (5, _)] ⟨rfl, rfl, rfl, trivial⟩ ?_
  refine X.next ?_
  refine C.seq ?_
  refine C.region ?_
  refine R.ev rfl (E.loadRowC rfl Tryd.underlying41 rfl Tryd.sz41 (by first | exact ⟨hs.ldA, by first | rfl | assumption | exact encV_len _ | exact Enc.len _ | exact len_ub (by assumption)⟩ | exact ⟨hs.ldP rfl, by first | rfl | assumption | exact encV_len _ | exact Enc.len _ | exact len_ub (by assumption)⟩ | exact ⟨hs.ldM rfl rfl, by first | rfl | assumption | exact encV_len _ | exact Enc.len _ | exact len_ub (by assumption)⟩ | exact ⟨hs.ldM (by assumption) (by first | rfl | assumption), by first | rfl | assumption | exact encV_len _ | exact Enc.len _ | exact len_ub (by assumption)⟩ | exact ⟨by assumption, by first | rfl | assumption | exact encV_len _ | exact Enc.len _ | exact len_ub (by assumption)⟩ | exact hs.ldp | exact At.partC (by assumption))) ?_
  refine R.call ⟨_, _, Tryd.func19, rfl, by kernel_rfl⟩ rfl rfl (rekey_any m hs) ?_
  rintro _ w2 ⟨rfl, hs⟩
  generalize rkR m = r
  generalize rkK m = kd
  generalize rkT m = tk
  have q1 := encO_len r
  have q2 := encP_len r.pu
  have q3 := encP_len r.nw
  have q4 := encV_len r.au
  have q6 := r.au.2
  have q8 := encV_len r.id
  refine R.ev rfl (E.move rfl) ?_
  refine R.ev rfl (E.extract rfl rfl) ?_
  refine R.ev rfl (E.extract rfl rfl) ?_
  refine R.ev rfl (E.extract rfl rfl) ?_
  refine R.sallocA hs Tryd.zr45 rfl ?_
  intro b6 w6 hs
  first | refine R.cstoreAll hs rfl rfl Tryd.sz45 (by first | rfl | assumption | exact encV_len _ | exact Enc.len _ | exact len_ub (by assumption) | simp [*]) (by first | rfl | assumption | exact encV_len _ | exact Enc.len _ | exact len_ub (by assumption) | simp [*]) (by first | assumption | exact OneL.all | exact Enc.one _ | exact ub_all _ | (repeat' (first | refine List.forall_mem_cons.2 ⟨?_, ?_⟩ | exact List.forall_mem_nil _ | rfl | exact OneC.one | exact KRow.oneC' (by assumption)))) ?_ | refine R.cstore hs rfl rfl Tryd.sz45 (by first | rfl | assumption | exact encV_len _ | exact Enc.len _ | exact len_ub (by assumption) | simp [*]) (by simp [*]) (by first | assumption | exact OneL.all | exact Enc.one _ | exact ub_all _ | (repeat' (first | refine List.forall_mem_cons.2 ⟨?_, ?_⟩ | exact List.forall_mem_nil _ | rfl | exact OneC.one | exact KRow.oneC' (by assumption)))) ?_
  intro w2_7 hs
  try simp only [List.set_cons_zero, List.set_cons_succ] at hs
  refine R.ev rfl (E.assign rfl) ?_
  refine R.ev rfl (E.assign rfl) ?_
  refine R.done ?_
  refine X.keep [(1, _), (5, _), (6, _), (7, _), (8, _)] ⟨rfl, rfl, rfl, rfl, rfl, trivial⟩ ?_
  refine X.next ?_
  refine C.seq ?_
  refine C.region ?_
  refine R.ev rfl (E.move rfl) ?_
  first | refine R.ev rfl (E.fieldAddr0 32 rfl Tryd.underlying45 rfl Tryd.sz29 rfl) ?_ | refine R.ev rfl (E.fieldAddrN 32 rfl Tryd.underlying45 rfl Tryd.sz29 rfl) ?_
  refine R.ev rfl (E.loadRowC rfl Tryd.underlying29 rfl Tryd.sz29 (by first | exact ⟨hs.ldA, by first | rfl | assumption | exact encV_len _ | exact Enc.len _ | exact len_ub (by assumption)⟩ | exact ⟨hs.ldP rfl, by first | rfl | assumption | exact encV_len _ | exact Enc.len _ | exact len_ub (by assumption)⟩ | exact ⟨hs.ldM rfl rfl, by first | rfl | assumption | exact encV_len _ | exact Enc.len _ | exact len_ub (by assumption)⟩ | exact ⟨hs.ldM (by assumption) (by first | rfl | assumption), by first | rfl | assumption | exact encV_len _ | exact Enc.len _ | exact len_ub (by assumption)⟩ | exact ⟨by assumption, by first | rfl | assumption | exact encV_len _ | exact Enc.len _ | exact len_ub (by assumption)⟩ | exact hs.ldp | exact At.partC (by assumption))) ?_
  refine R.ev rfl (E.move rfl) ?_
  refine R.call ⟨_, _, Tryd.func24, rfl, by kernel_rfl⟩ rfl rfl (nkey_any r.au n hs) ?_
  rintro _ w3 ⟨rfl, hs⟩
  refine R.ev rfl (E.move rfl) ?_
  refine R.ev rfl (E.extract rfl rfl) ?_
  refine R.ev rfl (E.extract rfl rfl) ?_
  refine R.sallocA hs Tryd.zr61 rfl ?_
  intro b9 w9 hs
  first | refine R.cstoreAll hs rfl rfl Tryd.sz61 (by first | rfl | assumption | exact encV_len _ | exact Enc.len _ | exact len_ub (by assumption) | simp [*]) (by first | rfl | assumption | exact encV_len _ | exact Enc.len _ | exact len_ub (by assumption) | simp [*]) (by first | assumption | exact OneL.all | exact Enc.one _ | exact ub_all _ | (repeat' (first | refine List.forall_mem_cons.2 ⟨?_, ?_⟩ | exact List.forall_mem_nil _ | rfl | exact OneC.one | exact KRow.oneC' (by assumption)))) ?_ | refine R.cstore hs rfl rfl Tryd.sz61 (by first | rfl | assumption | exact encV_len _ | exact Enc.len _ | exact len_ub (by assumption) | simp [*]) (by simp [*]) (by first | assumption | exact OneL.all | exact Enc.one _ | exact ub_all _ | (repeat' (first | refine List.forall_mem_cons.2 ⟨?_, ?_⟩ | exact List.forall_mem_nil _ | rfl | exact OneC.one | exact KRow.oneC' (by assumption)))) ?_
  intro w3_9 hs
  try simp only [List.set_cons_zero, List.set_cons_succ] at hs
  refine R.ev rfl (E.assign rfl) ?_
  refine R.done ?_
  refine X.keep [(1, _), (5, _), (6, _), (7, _), (8, _), (9, _), (10, _)] ⟨rfl, rfl, rfl, rfl, rfl, rfl, rfl, trivial⟩ ?_
  refine X.next ?_
  refine C.seq ?_
  refine C.drawnT [(some 25, [], []), (some 26, [25], [0]), (some 27, [5, 26], [1]), (some 28, [6, 26], [1]), (some 29, [26, 28], [1, 3]), (some 30, [6, 26], [1]), (some 31, [26, 30], [1, 5]), (some 32, [6, 26], [1]), (some 33, [26, 32], [1, 7]), (some 34, [6, 26], [1]), (some 35, [26, 34], [1, 9]), (some 36, [26, 35], [1, 10]), (some 37, [6, 26], [1]), (some 38, [26, 37], [1, 12]), (some 39, [26, 31, 33, 36, 38], [1, 6, 8, 11, 13]), (some 40, [7, 26], [1]), (some 41, [8, 26], [1]), (some 42, [6, 26], [1]), (some 43, [26, 42], [1, 17]), (some 44, [26, 43], [1, 11, 18]), (some 45, [26, 40, 41, 44], [1, 15, 16, 19]), (some 46, [26, 27, 29, 39, 45], [1, 2, 4, 14, 19, 20]), (some 47, [26, 46], [1, 21]), (some 48, [26, 47], [1, 22]), (some 49, [48], [21, 23]), (some 50, [5, 49], [24]), (some 51, [6, 49], [24]), (some 52, [49, 51], [24, 26]), (some 53, [49, 50, 52], [24, 25, 27]), (some 54, [49, 53], [24, 28]), (some 55, [49, 54], [24, 29]), (some 56, [55], [28, 30]), (some 57, [5, 56], [31]), (some 58, [56, 57], [31, 32]), (some 59, [56, 58], [31, 33]), (some 60, [56, 59], [31, 34]), (some 61, [60], [33, 35]), (some 62, [5, 61], [36]), (some 63, [6, 61], [36]), (some 64, [61, 63], [36, 38]), (some 65, [61, 62, 64], [36, 37, 39]), (some 66, [61, 65], [36, 40]), (some 67, [61, 66], [36, 41]), (some 68, [61, 67], [36, 42]), (some 69, [68], [40, 43]), (some 70, [9, 69], [44]), (some 71, [69], [44]), (some 72, [69, 70, 71], [44, 45, 46]), (some 73, [69, 72], [44, 47]), (some 74, [73], [44, 48]), (some 75, [10, 74], [49]), (some 76, [74, 75], [49, 50]), (some 77, [74, 76], [49, 51]), (some 78, [77], [49, 52]), (some 79, [5, 78], [53]), (some 80, [6, 78], [53]), (some 81, [78, 80], [53, 55]), (some 82, [1, 78], [53]), (some 83, [6, 78], [53]), (some 84, [78, 83], [53, 58]), (some 85, [78, 84], [53, 59]), (some 86, [6, 78], [53]), (some 87, [78, 86], [53, 61]), (some 88, [6, 78], [53]), (some 89, [78, 88], [53, 63]), (some 90, [78, 79, 81, 82, 85, 87, 89], [53, 54, 56, 57, 60, 62, 64]), (some 91, [78, 90], [53, 65]), (some 92, [78, 91], [53, 66]), (some 93, [92], [65, 67]), (some 94, [5, 93], [68]), (some 95, [93, 94], [68, 69]), (some 96, [93, 95], [68, 70]), (some 97, [93, 96], [68, 71]), (some 98, [93, 97], [68, 72]), (some 99, [98], [70, 73]), (some 100, [5, 99], [74]), (some 101, [99, 100], [74, 75]), (some 102, [99, 101], [74, 76]), (some 103, [99, 102], [74, 77]), (some 104, [99, 103], [74, 78]), (some 105, [104], [76, 79]), (some 106, [5, 105], [80]), (some 107, [105], [80]), (some 108, [105, 106, 107], [80, 81, 82]), (some 109, [105, 108], [80, 83]), (some 110, [105, 109], [80, 84]), (some 111, [110], [83, 85]), (some 112, [111], [86]), (some 113, [5, 111], [86]), (some 114, [111, 112, 113], [86, 87, 88]), (some 115, [111, 114], [86, 89]), (some 116, [111, 115], [86, 90]), (some 117, [116], [89, 91]), (some 118, [5, 117], [92]), (some 119, [117, 118], [92, 93]), (some 120, [117, 119], [92, 94]), (some 121, [117, 120], [92, 95]), (some 122, [121], [94, 96]), (some 123, [5, 122], [97]), (some 124, [122, 123], [97, 98]), (some 125, [122, 124], [97, 99]), (some 126, [125], [99, 100]), (some 127, [5, 126], [101]), (some 128, [126], [101]), (some 129, [126, 127, 128], [101, 102, 103]), (some 130, [126, 129], [101, 104]), (some 131, [126, 130], [101, 105]), (some 4, [131], [0, 1, 2, 3, 4, 5, 6, 7, 8, 9, 10, 11, 12, 13, 14, 15, 16, 17, 18, 19, 20, 21, 22, 23, 24, 25, 26, 27, 28, 29, 30, 31, 32, 33, 34, 35, 36, 37, 38, 39, 40, 41, 42, 43, 44, 45, 46, 47, 48, 49, 50, 51, 52, 53, 54, 55, 56, 57, 58, 59, 60, 61, 62, 63, 64, 65, 66, 67, 68, 69, 70, 71, 72, 73, 74, 75, 76, 77, 78, 79, 80, 81, 82, 83, 84, 85, 86, 87, 88, 89, 90, 91, 92, 93, 94, 95, 96, 97, 98, 99, 100, 101, 102, 103, 104, 105, 106])] (fun w1 => Sat (Kn.of w) w1 [row b9 61 (encK kz), row b6 45 (encO r)]) ([4, 6, 8, 10, 13, 18, 27, 39, 45, 56, 59, 62, 64], [1, 2, 3, 5, 7, 9, 12, 14, 15, 16, 17, 20, 22, 23, 24, 25, 26, 29, 30, 31, 32, 34, 35, 36, 37, 38, 41, 42, 43, 44, 46, 47, 48, 49, 50, 51, 52, 53, 54, 55, 57, 58, 61, 63, 66, 67, 68, 69, 71, 72, 73, 74, 75, 77, 78, 79, 80, 81, 84, 85, 86, 88, 90, 91, 92, 93, 95, 96, 97, 98, 100, 101, 102, 105, 106, 107]) (by kernel_rfl) (by kernel_rfl) (by kernel_rfl) (by kernel_rfl) ?_
  intro hgT
  have hs := hs.drew
  refine D.act 0 rfl (hgT.act (by kernel_rfl)) ?_
  refine R.call ⟨_, _, Tryd.func11, rfl, by kernel_rfl⟩ rfl rfl (known_any hs) ?_
  rintro _ w40 ⟨rfl, hs⟩
  refine D.back hs.to ?_
  refine D.evP 1 rfl (hgT.pure (by kernel_rfl)) rfl (fun _ => hs.to) (fun _ => E.move rfl) ?_
  refine D.evPG 2 rfl (hgT.pure (by kernel_rfl)) rfl rfl rfl (fun _ => hs.to) (fun _ => E.move rfl) ?_
  first | refine D.evPG 3 rfl (hgT.pure (by kernel_rfl)) rfl rfl rfl (fun _ => hs.to) (fun _ => E.fieldAddr0 0 rfl Tryd.underlying45 rfl Tryd.sz34 rfl) ?_ | refine D.evPG 3 rfl (hgT.pure (by kernel_rfl)) rfl rfl rfl (fun _ => hs.to) (fun _ => E.fieldAddrN 0 rfl Tryd.underlying45 rfl Tryd.sz34 rfl) ?_
  first | refine D.evPG 5 rfl (hgT.pure (by kernel_rfl)) rfl rfl rfl (fun _ => hs.to) (fun _ => E.fieldAddr0 32 rfl Tryd.underlying45 rfl Tryd.sz29 rfl) ?_ | refine D.evPG 5 rfl (hgT.pure (by kernel_rfl)) rfl rfl rfl (fun _ => hs.to) (fun _ => E.fieldAddrN 32 rfl Tryd.underlying45 rfl Tryd.sz29 rfl) ?_
  first | refine D.evPG 7 rfl (hgT.pure (by kernel_rfl)) rfl rfl rfl (fun _ => hs.to) (fun _ => E.fieldAddr0 48 rfl Tryd.underlying45 rfl Tryd.sz3 rfl) ?_ | refine D.evPG 7 rfl (hgT.pure (by kernel_rfl)) rfl rfl rfl (fun _ => hs.to) (fun _ => E.fieldAddrN 48 rfl Tryd.underlying45 rfl Tryd.sz3 rfl) ?_
  first | refine D.evPG 9 rfl (hgT.pure (by kernel_rfl)) rfl rfl rfl (fun _ => hs.to) (fun _ => E.fieldAddr0 49 rfl Tryd.underlying45 rfl Tryd.sz32 rfl) ?_ | refine D.evPG 9 rfl (hgT.pure (by kernel_rfl)) rfl rfl rfl (fun _ => hs.to) (fun _ => E.fieldAddrN 49 rfl Tryd.underlying45 rfl Tryd.sz32 rfl) ?_
  first | refine D.evPG 12 rfl (hgT.pure (by kernel_rfl)) rfl rfl rfl (fun _ => hs.to) (fun _ => E.fieldAddr0 66 rfl Tryd.underlying45 rfl Tryd.sz3 rfl) ?_ | refine D.evPG 12 rfl (hgT.pure (by kernel_rfl)) rfl rfl rfl (fun _ => hs.to) (fun _ => E.fieldAddrN 66 rfl Tryd.underlying45 rfl Tryd.sz3 rfl) ?_
  refine D.evPG 15 rfl (hgT.pure (by kernel_rfl)) rfl rfl rfl (fun _ => hs.to) (fun _ => E.move rfl) ?_
  refine D.evPG 16 rfl (hgT.pure (by kernel_rfl)) rfl rfl rfl (fun _ => hs.to) (fun _ => E.move rfl) ?_
  first | refine D.evPG 17 rfl (hgT.pure (by kernel_rfl)) rfl rfl rfl (fun _ => hs.to) (fun _ => E.fieldAddr0 67 rfl Tryd.underlying45 rfl Tryd.sz32 rfl) ?_ | refine D.evPG 17 rfl (hgT.pure (by kernel_rfl)) rfl rfl rfl (fun _ => hs.to) (fun _ => E.fieldAddrN 67 rfl Tryd.underlying45 rfl Tryd.sz32 rfl) ?_
  refine D.evG 4 rfl (hgT.take (by kernel_rfl)) rfl rfl rfl hs.to (fun _ hS => E.loadRowC rfl Tryd.underlying34 rfl Tryd.sz34 (by first | exact ⟨hS.ldA, by first | rfl | assumption | exact encV_len _ | exact Enc.len _ | exact len_ub (by assumption)⟩ | exact ⟨hS.ldP rfl, by first | rfl | assumption | exact encV_len _ | exact Enc.len _ | exact len_ub (by assumption)⟩ | exact ⟨hS.ldM rfl rfl, by first | rfl | assumption | exact encV_len _ | exact Enc.len _ | exact len_ub (by assumption)⟩ | exact ⟨hS.ldM (by assumption) (by first | rfl | assumption), by first | rfl | assumption | exact encV_len _ | exact Enc.len _ | exact len_ub (by assumption)⟩ | exact ⟨by assumption, by first | rfl | assumption | exact encV_len _ | exact Enc.len _ | exact len_ub (by assumption)⟩ | exact ⟨(by assumption : ∀ w', Sat _ w' _ → At w' _ _ _) _ hS, by first | rfl | assumption | exact encV_len _ | exact Enc.len _ | exact len_ub (by assumption)⟩ | exact hS.ldp | exact At.partC (by assumption) | exact At.partC ((by assumption : ∀ w', Sat _ w' _ → At w' _ _ _) _ hS))) ?_
  refine D.evG 6 rfl (hgT.take (by kernel_rfl)) rfl rfl rfl hs.to (fun _ hS => E.loadRowC rfl Tryd.underlying29 rfl Tryd.sz29 (by first | exact ⟨hS.ldA, by first | rfl | assumption | exact encV_len _ | exact Enc.len _ | exact len_ub (by assumption)⟩ | exact ⟨hS.ldP rfl, by first | rfl | assumption | exact encV_len _ | exact Enc.len _ | exact len_ub (by assumption)⟩ | exact ⟨hS.ldM rfl rfl, by first | rfl | assumption | exact encV_len _ | exact Enc.len _ | exact len_ub (by assumption)⟩ | exact ⟨hS.ldM (by assumption) (by first | rfl | assumption), by first | rfl | assumption | exact encV_len _ | exact Enc.len _ | exact len_ub (by assumption)⟩ | exact ⟨by assumption, by first | rfl | assumption | exact encV_len _ | exact Enc.len _ | exact len_ub (by assumption)⟩ | exact ⟨(by assumption : ∀ w', Sat _ w' _ → At w' _ _ _) _ hS, by first | rfl | assumption | exact encV_len _ | exact Enc.len _ | exact len_ub (by assumption)⟩ | exact hS.ldp | exact At.partC (by assumption) | exact At.partC ((by assumption : ∀ w', Sat _ w' _ → At w' _ _ _) _ hS))) ?_
  refine D.evG 8 rfl (hgT.take (by kernel_rfl)) rfl rfl rfl hs.to (fun _ hS => E.load1 rfl Tryd.underlying3 rfl (by first | exact hS.ldc | exact hS.ld rfl | exact hS.ld (by assumption) | exact by assumption | exact At.cellC (by assumption) | exact At.cellC ((by assumption : ∀ w', Sat _ w' _ → At w' _ _ _) _ hS) | exact (by assumption : ∀ w', Sat _ w' _ → World.cell? w' _ = some _) _ hS)) ?_
  refine D.evG 10 rfl (hgT.take (by kernel_rfl)) rfl rfl rfl hs.to (fun _ hS => E.loadRowC rfl Tryd.underlying32 rfl Tryd.sz32 (by first | exact ⟨hS.ldA, by first | rfl | assumption | exact encV_len _ | exact Enc.len _ | exact len_ub (by assumption)⟩ | exact ⟨hS.ldP rfl, by first | rfl | assumption | exact encV_len _ | exact Enc.len _ | exact len_ub (by assumption)⟩ | exact ⟨hS.ldM rfl rfl, by first | rfl | assumption | exact encV_len _ | exact Enc.len _ | exact len_ub (by assumption)⟩ | exact ⟨hS.ldM (by assumption) (by first | rfl | assumption), by first | rfl | assumption | exact encV_len _ | exact Enc.len _ | exact len_ub (by assumption)⟩ | exact ⟨by assumption, by first | rfl | assumption | exact encV_len _ | exact Enc.len _ | exact len_ub (by assumption)⟩ | exact ⟨(by assumption : ∀ w', Sat _ w' _ → At w' _ _ _) _ hS, by first | rfl | assumption | exact encV_len _ | exact Enc.len _ | exact len_ub (by assumption)⟩ | exact hS.ldp | exact At.partC (by assumption) | exact At.partC ((by assumption : ∀ w', Sat _ w' _ → At w' _ _ _) _ hS))) ?_
  refine D.evG 13 rfl (hgT.take (by kernel_rfl)) rfl rfl rfl hs.to (fun _ hS => E.load1 rfl Tryd.underlying3 rfl (by first | exact hS.ldc | exact hS.ld rfl | exact hS.ld (by assumption) | exact by assumption | exact At.cellC (by assumption) | exact At.cellC ((by assumption : ∀ w', Sat _ w' _ → At w' _ _ _) _ hS) | exact (by assumption : ∀ w', Sat _ w' _ → World.cell? w' _ = some _) _ hS)) ?_
  refine D.evG 18 rfl (hgT.take (by kernel_rfl)) rfl rfl rfl hs.to (fun _ hS => E.loadRowC rfl Tryd.underlying32 rfl Tryd.sz32 (by first | exact ⟨hS.ldA, by first | rfl | assumption | exact encV_len _ | exact Enc.len _ | exact len_ub (by assumption)⟩ | exact ⟨hS.ldP rfl, by first | rfl | assumption | exact encV_len _ | exact Enc.len _ | exact len_ub (by assumption)⟩ | exact ⟨hS.ldM rfl rfl, by first | rfl | assumption | exact encV_len _ | exact Enc.len _ | exact len_ub (by assumption)⟩ | exact ⟨hS.ldM (by assumption) (by first | rfl | assumption), by first | rfl | assumption | exact encV_len _ | exact Enc.len _ | exact len_ub (by assumption)⟩ | exact ⟨by assumption, by first | rfl | assumption | exact encV_len _ | exact Enc.len _ | exact len_ub (by assumption)⟩ | exact ⟨(by assumption : ∀ w', Sat _ w' _ → At w' _ _ _) _ hS, by first | rfl | assumption | exact encV_len _ | exact Enc.len _ | exact len_ub (by assumption)⟩ | exact hS.ldp | exact At.partC (by assumption) | exact At.partC ((by assumption : ∀ w', Sat _ w' _ → At w' _ _ _) _ hS))) ?_
  refine D.act 11 rfl (hgT.act (by kernel_rfl)) ?_
  refine R.gyes rfl rfl ?_
  refine R.call ⟨_, _, Tryd.func16, rfl, by kernel_rfl⟩ rfl rfl (to_any _ hs) ?_
  rintro _ w411 ⟨rfl, hs⟩
  refine D.back hs.to ?_
  refine D.evPG 14 rfl (hgT.pure (by kernel_rfl)) rfl rfl rfl (fun _ => hs.to) (fun _ => E.buildG (r := encCt r []) rfl Tryd.underlying87 Tryd.zr87 Tryd.ql87 (by kernel_rfl) (by kernel_rfl) ⟨⟨_, rfl, by first | rfl | exact vsz _ | simp [Value.cells, *]⟩, ⟨_, rfl, by first | rfl | exact vsz _ | simp [Value.cells, *]⟩, ⟨_, rfl, by first | rfl | exact vsz _ | simp [Value.cells, *]⟩, ⟨_, rfl, by first | rfl | exact vsz _ | simp [Value.cells, *]⟩, trivial⟩ (by first | rfl | simp [setF, fieldsOf, Value.cells, encCt, kvz, List.replicate])) ?_
  refine D.act 19 rfl (hgT.act (by kernel_rfl)) ?_
  refine R.gyes rfl rfl ?_
  refine R.call ⟨_, _, Tryd.func16, rfl, by kernel_rfl⟩ rfl rfl (to_any _ hs) ?_
  rintro _ w419 ⟨rfl, hs⟩
  refine D.back hs.to ?_
  refine D.evPG 20 rfl (hgT.pure (by kernel_rfl)) rfl rfl rfl (fun _ => hs.to) (fun _ => E.buildG (r := encCm kd tk r.nw) rfl Tryd.underlying89 Tryd.zr89 Tryd.ql89 (by kernel_rfl) (by kernel_rfl) ⟨⟨_, rfl, by first | rfl | exact vsz _ | simp [Value.cells, *]⟩, ⟨_, rfl, by first | rfl | exact vsz _ | simp [Value.cells, *]⟩, ⟨_, rfl, by first | rfl | exact vsz _ | simp [Value.cells, *]⟩, trivial⟩ (by first | rfl | simp [setF, fieldsOf, Value.cells, encCm, kvz, List.replicate])) ?_
  refine D.act 21 rfl (hgT.act (by kernel_rfl)) ?_
  refine R.gyes rfl rfl ?_
  refine R.call ⟨_, _, Tryd.func34, rfl, by kernel_rfl⟩ rfl rfl (nadd_any r kd tk [] hs) ?_
  rintro _ w421 ⟨rfl, hs⟩
  refine D.back hs.to ?_
  refine D.evPG 22 rfl (hgT.pure (by kernel_rfl)) rfl rfl rfl (fun _ => hs.to) (fun _ => (E.eql rfl rfl).isT rfl) ?_
  refine D.evP 23 rfl (hgT.pure (by kernel_rfl)) rfl (fun _ => hs.to) (fun _ => E.pickT rfl rfl) ?_
  refine D.evP 24 rfl (hgT.pure (by kernel_rfl)) rfl (fun _ => hs.to) (fun _ => E.move rfl) ?_
  refine D.evPG 25 rfl (hgT.pure (by kernel_rfl)) rfl rfl rfl (fun _ => hs.to) (fun _ => E.move rfl) ?_
  first | refine D.evPG 26 rfl (hgT.pure (by kernel_rfl)) rfl rfl rfl (fun _ => hs.to) (fun _ => E.fieldAddr0 0 rfl Tryd.underlying45 rfl Tryd.sz34 rfl) ?_ | refine D.evPG 26 rfl (hgT.pure (by kernel_rfl)) rfl rfl rfl (fun _ => hs.to) (fun _ => E.fieldAddrN 0 rfl Tryd.underlying45 rfl Tryd.sz34 rfl) ?_
  refine D.evG 27 rfl (hgT.take (by kernel_rfl)) rfl rfl rfl hs.to (fun _ hS => E.loadRowC rfl Tryd.underlying34 rfl Tryd.sz34 (by first | exact ⟨hS.ldA, by first | rfl | assumption | exact encV_len _ | exact Enc.len _ | exact len_ub (by assumption)⟩ | exact ⟨hS.ldP rfl, by first | rfl | assumption | exact encV_len _ | exact Enc.len _ | exact len_ub (by assumption)⟩ | exact ⟨hS.ldM rfl rfl, by first | rfl | assumption | exact encV_len _ | exact Enc.len _ | exact len_ub (by assumption)⟩ | exact ⟨hS.ldM (by assumption) (by first | rfl | assumption), by first | rfl | assumption | exact encV_len _ | exact Enc.len _ | exact len_ub (by assumption)⟩ | exact ⟨by assumption, by first | rfl | assumption | exact encV_len _ | exact Enc.len _ | exact len_ub (by assumption)⟩ | exact ⟨(by assumption : ∀ w', Sat _ w' _ → At w' _ _ _) _ hS, by first | rfl | assumption | exact encV_len _ | exact Enc.len _ | exact len_ub (by assumption)⟩ | exact hS.ldp | exact At.partC (by assumption) | exact At.partC ((by assumption : ∀ w', Sat _ w' _ → At w' _ _ _) _ hS))) ?_
  refine D.act 28 rfl (hgT.act (by kernel_rfl)) ?_
  refine R.gyes rfl rfl ?_
  refine R.call ⟨_, _, Tryd.func32, rfl, by kernel_rfl⟩ rfl rfl (nhas_any r.id hs) ?_
  rintro _ w428 ⟨rfl, hs⟩
  refine D.back hs.to ?_
  refine D.evPG 29 rfl (hgT.pure (by kernel_rfl)) rfl rfl rfl (fun _ => hs.to) (fun _ => (E.not rfl).isB (c := true) rfl) ?_
  refine D.evP 30 rfl (hgT.pure (by kernel_rfl)) rfl (fun _ => hs.to) (fun _ => E.pickT rfl rfl) ?_
  refine D.evP 31 rfl (hgT.pure (by kernel_rfl)) rfl (fun _ => hs.to) (fun _ => E.move rfl) ?_
  refine D.evPG 32 rfl (hgT.pure (by kernel_rfl)) rfl rfl rfl (fun _ => hs.to) (fun _ => E.move rfl) ?_
  refine D.act 33 rfl (hgT.act (by kernel_rfl)) ?_
  refine R.gyes rfl rfl ?_
  refine R.call ⟨_, _, Tryd.func28, rfl, by kernel_rfl⟩ rfl rfl (nlen_any hs) ?_
  rintro _ w433 ⟨rfl, hs⟩
  refine D.back hs.to ?_
  refine D.evPG 34 rfl (hgT.pure (by kernel_rfl)) rfl rfl rfl (fun _ => hs.to) (fun _ => (E.eql rfl rfl).isT rfl) ?_
  refine D.evP 35 rfl (hgT.pure (by kernel_rfl)) rfl (fun _ => hs.to) (fun _ => E.pickT rfl rfl) ?_
  refine D.evP 36 rfl (hgT.pure (by kernel_rfl)) rfl (fun _ => hs.to) (fun _ => E.move rfl) ?_
  refine D.evPG 37 rfl (hgT.pure (by kernel_rfl)) rfl rfl rfl (fun _ => hs.to) (fun _ => E.move rfl) ?_
  first | refine D.evPG 38 rfl (hgT.pure (by kernel_rfl)) rfl rfl rfl (fun _ => hs.to) (fun _ => E.fieldAddr0 32 rfl Tryd.underlying45 rfl Tryd.sz29 rfl) ?_ | refine D.evPG 38 rfl (hgT.pure (by kernel_rfl)) rfl rfl rfl (fun _ => hs.to) (fun _ => E.fieldAddrN 32 rfl Tryd.underlying45 rfl Tryd.sz29 rfl) ?_
  refine D.evG 39 rfl (hgT.take (by kernel_rfl)) rfl rfl rfl hs.to (fun _ hS => E.loadRowC rfl Tryd.underlying29 rfl Tryd.sz29 (by first | exact ⟨hS.ldA, by first | rfl | assumption | exact encV_len _ | exact Enc.len _ | exact len_ub (by assumption)⟩ | exact ⟨hS.ldP rfl, by first | rfl | assumption | exact encV_len _ | exact Enc.len _ | exact len_ub (by assumption)⟩ | exact ⟨hS.ldM rfl rfl, by first | rfl | assumption | exact encV_len _ | exact Enc.len _ | exact len_ub (by assumption)⟩ | exact ⟨hS.ldM (by assumption) (by first | rfl | assumption), by first | rfl | assumption | exact encV_len _ | exact Enc.len _ | exact len_ub (by assumption)⟩ | exact ⟨by assumption, by first | rfl | assumption | exact encV_len _ | exact Enc.len _ | exact len_ub (by assumption)⟩ | exact ⟨(by assumption : ∀ w', Sat _ w' _ → At w' _ _ _) _ hS, by first | rfl | assumption | exact encV_len _ | exact Enc.len _ | exact len_ub (by assumption)⟩ | exact hS.ldp | exact At.partC (by assumption) | exact At.partC ((by assumption : ∀ w', Sat _ w' _ → At w' _ _ _) _ hS))) ?_
  refine D.act 40 rfl (hgT.act (by kernel_rfl)) ?_
  refine R.gyes rfl rfl ?_
  refine R.call ⟨_, _, Tryd.func22, rfl, by kernel_rfl⟩ rfl rfl (nchain_any r.au hs) ?_
  rintro _ w440 ⟨rfl, hs⟩
  refine D.back hs.to ?_
  refine D.evPG 41 rfl (hgT.pure (by kernel_rfl)) rfl rfl rfl (fun _ => hs.to) (fun _ => E.lenSl rfl Tryd.underlying53) ?_
  refine D.evPG 42 rfl (hgT.pure (by kernel_rfl)) rfl rfl rfl (fun _ => hs.to) (fun _ => (E.eql rfl rfl).isT rfl) ?_
  refine D.evP 43 rfl (hgT.pure (by kernel_rfl)) rfl (fun _ => hs.to) (fun _ => E.pickT rfl rfl) ?_
  refine D.evP 44 rfl (hgT.pure (by kernel_rfl)) rfl (fun _ => hs.to) (fun _ => E.move rfl) ?_
  refine D.evPG 46 rfl (hgT.pure (by kernel_rfl)) rfl rfl rfl (fun _ => hs.to) (fun _ => E.buildG (r := encK kz) rfl Tryd.underlying61 Tryd.zr61 Tryd.ql61 (by kernel_rfl) (by kernel_rfl) trivial (by first | rfl | simp [setF, fieldsOf, Value.cells])) ?_
  refine D.evG 45 rfl (hgT.take (by kernel_rfl)) rfl rfl rfl hs.to (fun _ hS => E.loadRowC rfl Tryd.underlying61 rfl Tryd.sz61 (by first | exact ⟨hS.ldA, by first | rfl | assumption | exact encV_len _ | exact Enc.len _ | exact len_ub (by assumption)⟩ | exact ⟨hS.ldP rfl, by first | rfl | assumption | exact encV_len _ | exact Enc.len _ | exact len_ub (by assumption)⟩ | exact ⟨hS.ldM rfl rfl, by first | rfl | assumption | exact encV_len _ | exact Enc.len _ | exact len_ub (by assumption)⟩ | exact ⟨hS.ldM (by assumption) (by first | rfl | assumption), by first | rfl | assumption | exact encV_len _ | exact Enc.len _ | exact len_ub (by assumption)⟩ | exact ⟨by assumption, by first | rfl | assumption | exact encV_len _ | exact Enc.len _ | exact len_ub (by assumption)⟩ | exact ⟨(by assumption : ∀ w', Sat _ w' _ → At w' _ _ _) _ hS, by first | rfl | assumption | exact encV_len _ | exact Enc.len _ | exact len_ub (by assumption)⟩ | exact hS.ldp | exact At.partC (by assumption) | exact At.partC ((by assumption : ∀ w', Sat _ w' _ → At w' _ _ _) _ hS))) ?_
  refine D.evPG 47 rfl (hgT.pure (by kernel_rfl)) rfl rfl rfl (fun _ => hs.to) (fun _ => (E.eqlAgg 10 rfl rfl Tryd.lv61 rfl Tryd.underlying61 rfl Tryd.gd61 (encK_fits kz) (encK_fits kz)).isB (c := true) (by rw [encK_eq]; simp)) ?_
  refine D.evP 48 rfl (hgT.pure (by kernel_rfl)) rfl (fun _ => hs.to) (fun _ => E.pickT rfl rfl) ?_
  refine D.evP 49 rfl (hgT.pure (by kernel_rfl)) rfl (fun _ => hs.to) (fun _ => E.move rfl) ?_
  refine D.evPG 50 rfl (hgT.pure (by kernel_rfl)) rfl rfl rfl (fun _ => hs.to) (fun _ => E.move rfl) ?_
  refine D.evPG 51 rfl (hgT.pure (by kernel_rfl)) rfl rfl rfl (fun _ => hs.to) (fun _ => (E.not rfl).isB (c := true) rfl) ?_
  refine D.evP 52 rfl (hgT.pure (by kernel_rfl)) rfl (fun _ => hs.to) (fun _ => E.pickT rfl rfl) ?_
  refine D.evP 53 rfl (hgT.pure (by kernel_rfl)) rfl (fun _ => hs.to) (fun _ => E.move rfl) ?_
  refine D.evPG 54 rfl (hgT.pure (by kernel_rfl)) rfl rfl rfl (fun _ => hs.to) (fun _ => E.move rfl) ?_
  first | refine D.evPG 55 rfl (hgT.pure (by kernel_rfl)) rfl rfl rfl (fun _ => hs.to) (fun _ => E.fieldAddr0 32 rfl Tryd.underlying45 rfl Tryd.sz29 rfl) ?_ | refine D.evPG 55 rfl (hgT.pure (by kernel_rfl)) rfl rfl rfl (fun _ => hs.to) (fun _ => E.fieldAddrN 32 rfl Tryd.underlying45 rfl Tryd.sz29 rfl) ?_
  refine D.evPG 57 rfl (hgT.pure (by kernel_rfl)) rfl rfl rfl (fun _ => hs.to) (fun _ => E.move rfl) ?_
  first | refine D.evPG 58 rfl (hgT.pure (by kernel_rfl)) rfl rfl rfl (fun _ => hs.to) (fun _ => E.fieldAddr0 49 rfl Tryd.underlying45 rfl Tryd.sz32 rfl) ?_ | refine D.evPG 58 rfl (hgT.pure (by kernel_rfl)) rfl rfl rfl (fun _ => hs.to) (fun _ => E.fieldAddrN 49 rfl Tryd.underlying45 rfl Tryd.sz32 rfl) ?_
  first | refine D.evPG 61 rfl (hgT.pure (by kernel_rfl)) rfl rfl rfl (fun _ => hs.to) (fun _ => E.fieldAddr0 66 rfl Tryd.underlying45 rfl Tryd.sz3 rfl) ?_ | refine D.evPG 61 rfl (hgT.pure (by kernel_rfl)) rfl rfl rfl (fun _ => hs.to) (fun _ => E.fieldAddrN 66 rfl Tryd.underlying45 rfl Tryd.sz3 rfl) ?_
  first | refine D.evPG 63 rfl (hgT.pure (by kernel_rfl)) rfl rfl rfl (fun _ => hs.to) (fun _ => E.fieldAddr0 0 rfl Tryd.underlying45 rfl Tryd.sz34 rfl) ?_ | refine D.evPG 63 rfl (hgT.pure (by kernel_rfl)) rfl rfl rfl (fun _ => hs.to) (fun _ => E.fieldAddrN 0 rfl Tryd.underlying45 rfl Tryd.sz34 rfl) ?_
  refine D.evG 56 rfl (hgT.take (by kernel_rfl)) rfl rfl rfl hs.to (fun _ hS => E.loadRowC rfl Tryd.underlying29 rfl Tryd.sz29 (by first | exact ⟨hS.ldA, by first | rfl | assumption | exact encV_len _ | exact Enc.len _ | exact len_ub (by assumption)⟩ | exact ⟨hS.ldP rfl, by first | rfl | assumption | exact encV_len _ | exact Enc.len _ | exact len_ub (by assumption)⟩ | exact ⟨hS.ldM rfl rfl, by first | rfl | assumption | exact encV_len _ | exact Enc.len _ | exact len_ub (by assumption)⟩ | exact ⟨hS.ldM (by assumption) (by first | rfl | assumption), by first | rfl | assumption | exact encV_len _ | exact Enc.len _ | exact len_ub (by assumption)⟩ | exact ⟨by assumption, by first | rfl | assumption | exact encV_len _ | exact Enc.len _ | exact len_ub (by assumption)⟩ | exact ⟨(by assumption : ∀ w', Sat _ w' _ → At w' _ _ _) _ hS, by first | rfl | assumption | exact encV_len _ | exact Enc.len _ | exact len_ub (by assumption)⟩ | exact hS.ldp | exact At.partC (by assumption) | exact At.partC ((by assumption : ∀ w', Sat _ w' _ → At w' _ _ _) _ hS))) ?_
  refine D.evG 59 rfl (hgT.take (by kernel_rfl)) rfl rfl rfl hs.to (fun _ hS => E.loadRowC rfl Tryd.underlying32 rfl Tryd.sz32 (by first | exact ⟨hS.ldA, by first | rfl | assumption | exact encV_len _ | exact Enc.len _ | exact len_ub (by assumption)⟩ | exact ⟨hS.ldP rfl, by first | rfl | assumption | exact encV_len _ | exact Enc.len _ | exact len_ub (by assumption)⟩ | exact ⟨hS.ldM rfl rfl, by first | rfl | assumption | exact encV_len _ | exact Enc.len _ | exact len_ub (by assumption)⟩ | exact ⟨hS.ldM (by assumption) (by first | rfl | assumption), by first | rfl | assumption | exact encV_len _ | exact Enc.len _ | exact len_ub (by assumption)⟩ | exact ⟨by assumption, by first | rfl | assumption | exact encV_len _ | exact Enc.len _ | exact len_ub (by assumption)⟩ | exact ⟨(by assumption : ∀ w', Sat _ w' _ → At w' _ _ _) _ hS, by first | rfl | assumption | exact encV_len _ | exact Enc.len _ | exact len_ub (by assumption)⟩ | exact hS.ldp | exact At.partC (by assumption) | exact At.partC ((by assumption : ∀ w', Sat _ w' _ → At w' _ _ _) _ hS))) ?_
  refine D.evG 62 rfl (hgT.take (by kernel_rfl)) rfl rfl rfl hs.to (fun _ hS => E.load1 rfl Tryd.underlying3 rfl (by first | exact hS.ldc | exact hS.ld rfl | exact hS.ld (by assumption) | exact by assumption | exact At.cellC (by assumption) | exact At.cellC ((by assumption : ∀ w', Sat _ w' _ → At w' _ _ _) _ hS) | exact (by assumption : ∀ w', Sat _ w' _ → World.cell? w' _ = some _) _ hS)) ?_
  refine D.evG 64 rfl (hgT.take (by kernel_rfl)) rfl rfl rfl hs.to (fun _ hS => E.loadRowC rfl Tryd.underlying34 rfl Tryd.sz34 (by first | exact ⟨hS.ldA, by first | rfl | assumption | exact encV_len _ | exact Enc.len _ | exact len_ub (by assumption)⟩ | exact ⟨hS.ldP rfl, by first | rfl | assumption | exact encV_len _ | exact Enc.len _ | exact len_ub (by assumption)⟩ | exact ⟨hS.ldM rfl rfl, by first | rfl | assumption | exact encV_len _ | exact Enc.len _ | exact len_ub (by assumption)⟩ | exact ⟨hS.ldM (by assumption) (by first | rfl | assumption), by first | rfl | assumption | exact encV_len _ | exact Enc.len _ | exact len_ub (by assumption)⟩ | exact ⟨by assumption, by first | rfl | assumption | exact encV_len _ | exact Enc.len _ | exact len_ub (by assumption)⟩ | exact ⟨(by assumption : ∀ w', Sat _ w' _ → At w' _ _ _) _ hS, by first | rfl | assumption | exact encV_len _ | exact Enc.len _ | exact len_ub (by assumption)⟩ | exact hS.ldp | exact At.partC (by assumption) | exact At.partC ((by assumption : ∀ w', Sat _ w' _ → At w' _ _ _) _ hS))) ?_
  refine D.act 60 rfl (hgT.act (by kernel_rfl)) ?_
  refine R.gyes rfl rfl ?_
  refine R.call ⟨_, _, Tryd.func16, rfl, by kernel_rfl⟩ rfl rfl (to_any _ hs) ?_
  rintro _ w460 ⟨rfl, hs⟩
  refine D.back hs.to ?_
  refine D.act 65 rfl (hgT.act (by kernel_rfl)) ?_
  refine R.gyes rfl rfl ?_
  refine R.call ⟨_, _, Tryd.func15, rfl, by kernel_rfl⟩ rfl rfl (njudge_any r.au n r.pu r.leaf r.id hs) ?_
  rintro _ w465 ⟨rfl, hs⟩
  refine D.back hs.to ?_
  refine D.evPG 66 rfl (hgT.pure (by kernel_rfl)) rfl rfl rfl (fun _ => hs.to) (fun _ => (E.eql rfl rfl).isT rfl) ?_
  refine D.evP 67 rfl (hgT.pure (by kernel_rfl)) rfl (fun _ => hs.to) (fun _ => E.pickT rfl rfl) ?_
  refine D.evP 68 rfl (hgT.pure (by kernel_rfl)) rfl (fun _ => hs.to) (fun _ => E.move rfl) ?_
  refine D.evPG 69 rfl (hgT.pure (by kernel_rfl)) rfl rfl rfl (fun _ => hs.to) (fun _ => E.move rfl) ?_
  refine D.act 70 rfl (hgT.act (by kernel_rfl)) ?_
  refine R.gyes rfl rfl ?_
  refine R.call ⟨_, _, Tryd.func30, rfl, by kernel_rfl⟩ rfl rfl (nauthors_any hs) ?_
  rintro _ w470 ⟨rfl, hs⟩
  refine D.back hs.to ?_
  refine D.evPG 71 rfl (hgT.pure (by kernel_rfl)) rfl rfl rfl (fun _ => hs.to) (fun _ => E.lenSl rfl Tryd.underlying75) ?_
  refine D.evPG 72 rfl (hgT.pure (by kernel_rfl)) rfl rfl rfl (fun _ => hs.to) (fun _ => (E.eql rfl rfl).isT rfl) ?_
  refine D.evP 73 rfl (hgT.pure (by kernel_rfl)) rfl (fun _ => hs.to) (fun _ => E.pickT rfl rfl) ?_
  refine D.evP 74 rfl (hgT.pure (by kernel_rfl)) rfl (fun _ => hs.to) (fun _ => E.move rfl) ?_
  refine D.evPG 75 rfl (hgT.pure (by kernel_rfl)) rfl rfl rfl (fun _ => hs.to) (fun _ => E.move rfl) ?_
  refine D.act 76 rfl (hgT.act (by kernel_rfl)) ?_
  refine R.gyes rfl rfl ?_
  refine R.call ⟨_, _, Tryd.func35, rfl, by kernel_rfl⟩ rfl rfl (ncounting_any hs) ?_
  rintro _ w476 ⟨rfl, hs⟩
  refine D.back hs.to ?_
  refine D.evPG 77 rfl (hgT.pure (by kernel_rfl)) rfl rfl rfl (fun _ => hs.to) (fun _ => E.lenSl rfl Tryd.underlying85) ?_
  refine D.evPG 78 rfl (hgT.pure (by kernel_rfl)) rfl rfl rfl (fun _ => hs.to) (fun _ => (E.eql rfl rfl).isT rfl) ?_
  refine D.evP 79 rfl (hgT.pure (by kernel_rfl)) rfl (fun _ => hs.to) (fun _ => E.pickT rfl rfl) ?_
  refine D.evP 80 rfl (hgT.pure (by kernel_rfl)) rfl (fun _ => hs.to) (fun _ => E.move rfl) ?_
  refine D.evPG 81 rfl (hgT.pure (by kernel_rfl)) rfl rfl rfl (fun _ => hs.to) (fun _ => E.move rfl) ?_
  refine D.act 82 rfl (hgT.act (by kernel_rfl)) ?_
  refine R.gyes rfl rfl ?_
  refine R.call ⟨_, _, Tryd.func23, rfl, by kernel_rfl⟩ rfl rfl (new_any hs) ?_
  rintro _ w482 ⟨pA, FA, rfl, hwA, hs⟩
  refine D.back hs.to ?_
  refine D.act 83 rfl (hgT.act (by kernel_rfl)) ?_
  refine R.gyes rfl rfl ?_
  refine R.call ⟨_, _, Tryd.func29, rfl, by kernel_rfl⟩ rfl rfl (nmerge_any hs) ?_
  rintro _ w483 ⟨rfl, hs⟩
  refine D.back hs.to ?_
  refine D.evPG 84 rfl (hgT.pure (by kernel_rfl)) rfl rfl rfl (fun _ => hs.to) (fun _ => (E.eql rfl rfl).isT rfl) ?_
  refine D.evP 85 rfl (hgT.pure (by kernel_rfl)) rfl (fun _ => hs.to) (fun _ => E.pickT rfl rfl) ?_
  refine D.evP 86 rfl (hgT.pure (by kernel_rfl)) rfl (fun _ => hs.to) (fun _ => E.move rfl) ?_
  refine D.evPG 88 rfl (hgT.pure (by kernel_rfl)) rfl rfl rfl (fun _ => hs.to) (fun _ => E.move rfl) ?_
  refine D.act 87 rfl (hgT.act (by kernel_rfl)) ?_
  refine R.gyes rfl rfl ?_
  refine R.call ⟨_, _, Tryd.func23, rfl, by kernel_rfl⟩ rfl rfl (new_any hs) ?_
  rintro _ w487 ⟨pB, FB, rfl, hwB, hs⟩
  refine D.back hs.to ?_
  refine D.act 89 rfl (hgT.act (by kernel_rfl)) ?_
  refine R.gyes rfl rfl ?_
  refine R.call ⟨_, _, Tryd.func29, rfl, by kernel_rfl⟩ rfl rfl (nmerge2_any hs) ?_
  rintro _ w489 ⟨rfl, hs⟩
  refine D.back hs.to ?_
  refine D.evPG 90 rfl (hgT.pure (by kernel_rfl)) rfl rfl rfl (fun _ => hs.to) (fun _ => (E.eql rfl rfl).isT rfl) ?_
  refine D.evP 91 rfl (hgT.pure (by kernel_rfl)) rfl (fun _ => hs.to) (fun _ => E.pickT rfl rfl) ?_
  refine D.evP 92 rfl (hgT.pure (by kernel_rfl)) rfl (fun _ => hs.to) (fun _ => E.move rfl) ?_
  refine D.evPG 93 rfl (hgT.pure (by kernel_rfl)) rfl rfl rfl (fun _ => hs.to) (fun _ => E.move rfl) ?_
  refine D.act 94 rfl (hgT.act (by kernel_rfl)) ?_
  refine R.gyes rfl rfl ?_
  refine R.call ⟨_, _, Tryd.func27, rfl, by kernel_rfl⟩ rfl rfl (nclone_any hs) ?_
  rintro _ w494 ⟨rfl, hs⟩
  refine D.back hs.to ?_
  refine D.evPG 95 rfl (hgT.pure (by kernel_rfl)) rfl rfl rfl (fun _ => hs.to) (fun _ => E.eqlNilT rfl rfl Tryd.underlying25) ?_
  refine D.evP 96 rfl (hgT.pure (by kernel_rfl)) rfl (fun _ => hs.to) (fun _ => E.pickT rfl rfl) ?_
  refine D.evP 97 rfl (hgT.pure (by kernel_rfl)) rfl (fun _ => hs.to) (fun _ => E.move rfl) ?_
  refine D.evPG 98 rfl (hgT.pure (by kernel_rfl)) rfl rfl rfl (fun _ => hs.to) (fun _ => E.move rfl) ?_
  refine D.act 99 rfl (hgT.act (by kernel_rfl)) ?_
  refine R.gyes rfl rfl ?_
  refine R.call ⟨_, _, Tryd.func25, rfl, by kernel_rfl⟩ rfl rfl (nequal_any hs) ?_
  rintro _ w499 ⟨rfl, hs⟩
  refine D.back hs.to ?_
  refine D.evP 100 rfl (hgT.pure (by kernel_rfl)) rfl (fun _ => hs.to) (fun _ => E.pickT rfl rfl) ?_
  refine D.evP 101 rfl (hgT.pure (by kernel_rfl)) rfl (fun _ => hs.to) (fun _ => E.move rfl) ?_
  refine D.evPG 102 rfl (hgT.pure (by kernel_rfl)) rfl rfl rfl (fun _ => hs.to) (fun _ => E.move rfl) ?_
  refine D.act 103 rfl (hgT.act (by kernel_rfl)) ?_
  refine R.gyes rfl rfl ?_
  refine R.call ⟨_, _, Tryd.func23, rfl, by kernel_rfl⟩ rfl rfl (new_any hs) ?_
  rintro _ w4103 ⟨pC, FC, rfl, hwC, hs⟩
  refine D.back hs.to ?_
  refine D.act 104 rfl (hgT.act (by kernel_rfl)) ?_
  refine R.gyes rfl rfl ?_
  refine R.call ⟨_, _, Tryd.func25, rfl, by kernel_rfl⟩ rfl rfl (nequal2_any hs) ?_
  rintro _ w4104 ⟨rfl, hs⟩
  refine D.back hs.to ?_
  refine D.evPG 105 rfl (hgT.pure (by kernel_rfl)) rfl rfl rfl (fun _ => hs.to) (fun _ => (E.not rfl).isB (c := true) rfl) ?_
  refine D.evP 106 rfl (hgT.pure (by kernel_rfl)) rfl (fun _ => hs.to) (fun _ => E.pickT rfl rfl) ?_
  refine D.evP 107 rfl (hgT.pure (by kernel_rfl)) rfl (fun _ => hs.to) (fun _ => E.assign rfl) ?_
  refine D.done rfl (by kernel_rfl) ?_
  refine X.keep [(4, _)] ⟨rfl, trivial⟩ ?_
  refine X.next ?_
  refine C.ret ?_
  refine X.ret1 rfl rfl ?_
  exact ⟨rfl, (hs.less (KLe.refl _).le).mod⟩

namespace keyringNil
open Go.ChangeShapes Go.WideShapes Go.ChangeAt Go.RowKit
open Go.ChangeMaps (open_string shut_string)
set_option linter.unusedVariables false

theorem own : ownKnob Tryd.prog.godebug = none := by kernel_rfl
theorem laidOut : laidOutB Tryd.prog = true := by kernel_rfl
theorem door_met (os : Os) (args : Array Value) : laidMetH Tryd.prog Rows.keyringNilRow.laid ((World.doorLaid Tryd.prog 400 os).forCall (fun _ _ => 0) ⟨#[], args, []⟩).memory :=
  laidMetH_of_parts3 (fuel := 8) (laidMet_of_run' 8 (by kernel_rfl) (by kernel_rfl)) (by kernel_rfl) (by kernel_rfl)
set_option maxRecDepth 100000 in
theorem lifted (os : Os) (started : os.Started) (H : Type) (enc : TypeId × Value → H) :
    ReturnsInHanded {} Tryd.checked os 10 .any (fun w args => (Rows.keyringNilSpec.pre enc Tryd.prog Tryd.f10 [] false w args ∧ laidMetH Tryd.prog Rows.keyringNilRow.laid w) ∧ sizedMet enc Tryd.prog Tryd.f10 (OpenSpec.ofChange Rows.keyringNilSpec) false w args)
      (Rows.keyringNilSpec.post enc Tryd.prog Tryd.f10 false true false false) := by
  refine returnsInHanded_of_change_and (C := Tryd.checked) (X := fun w _ => laidMetH Tryd.prog Rows.keyringNilRow.laid w) (fun _ _ _ hh h => h.of_heap hh) own started (by kernel_rfl) Tryd.func10
    (ChangeSpec.witness_shaped (enc := enc) (C := Tryd.checked) (os := os) (X := fun w _ => laidMetH Tryd.prog Rows.keyringNilRow.laid w) false (World.doorLaid Tryd.prog 400 os) #[.agg #[.int .u8 0, .int .u8 0, .int .u8 0, .int .u8 0, .int .u8 0, .int .u8 0, .int .u8 0], .int .i64 0] 8 rfl (World.shaped_of_RefB (by kernel_rfl) (by kernel_rfl)) (by kernel_rfl) (by kernel_rfl) (by kernel_rfl) (door_met os _)) ?_
  intro W base args ds gs before hval0 hW _ _ hL _
  have hval : ∀ (j : Nat) t v, Tryd.f10.params[j]? = some t → args[j]? = some v → Value.okWide Tryd.prog W .any base t v := hval0
  have hW' := hW
  obtain ⟨p, q, hA0, hV, rfl, hfz, hnd⟩ := hW
  have hA : DataW.TrodAll enc Tryd.prog W 0 (fun _ => true) true Tryd.f10.params.toList args.toList ds p := hA0
  rw [Tryd.params10] at hA hval
  obtain ⟨v0, vs0, d0, ds0, p0, q0, hargs, rfl, rfl, h0, r0⟩ := trodAll_cons hA
  obtain ⟨v1, vs1, d1, ds1, p1, q1, rfl, rfl, rfl, h1, r1⟩ := trodAll_cons r0
  obtain ⟨rfl, rfl, rfl⟩ := trodAll_nil r1
  obtain rfl : args = #[v0, v1] := by cases args; simp_all
  obtain ⟨rfl, rfl⟩ := trodVars_none hV
  have lt0 : ∀ x ∈ p0, x.block < W.heap.size := by obtain ⟨m, hm⟩ := h0; exact DataW.trod_lt m _ _ _ hm
  have a0 := Eng.argv_of (hval 0 41 v0 rfl rfl) h0
  have lt1 : ∀ x ∈ p1, x.block < W.heap.size := by obtain ⟨m, hm⟩ := h1; exact DataW.trod_lt m _ _ _ hm
  have a1 := Eng.argv_of (hval 1 3 v1 rfl rfl) h1
  clear hA0 hval0
  refine Calls.mono (knil_walk W (laid_kc hL) v0 a0 v1 a1) fun e W' ⟨v, he, hv, hm⟩ => ?_
  subst he
  subst hv
  have bel := hm.below
  exact ⟨_, rfl, _, _, _, [], _, [], hW', trodAll_mk1 (shut_bool Tryd.underlying4 _), (trodAll_cons_mk (Below.trod laidOut (by kernel_rfl) (of_decide_eq_true (by kernel_rfl)) h0 bel lt0) (trodAll_cons_mk (Below.trod laidOut (by kernel_rfl) (of_decide_eq_true (by kernel_rfl)) h1 bel lt1) trodAll_mk0)), rfl, bel.frame _, fun h => by cases h⟩

theorem over : Rows.keyringNilRow.holds Tryd.pinned (OpenSpec.ofChange Rows.keyringNilSpec) :=
  OpenClaim.holds_of_wide 10 Tryd.f10 rfl rfl rfl rfl rfl rfl rfl ⟨rfl, rfl, rfl, rfl, rfl⟩ rfl rfl rfl rfl rfl (by kernel_rfl) Tryd.func10 (by kernel_rfl)
    (of_decide_eq_true (by kernel_rfl)) (by unfold Func.isWrapper; first | (rw [if_pos (by decide +kernel)]; kernel_rfl) | (rw [if_neg (by decide +kernel)]; exact ⟨rfl, rfl⟩))
    (fun os started H enc _ => lifted os started H enc)
end keyringNil
/-- the statement: the tied card -/
theorem keyringNil_holds : Rows.KeyringNilCardSaid :=
  Claim7.holds_tied_plain_at .later [] [.data] true (true, "c0ab8a36735131c8a9cd87cc07d7b40f6a8e739a1cb5823313f320602ea95481") false
    keyringNil.over (fun _ h => by cases h) (by kernel_rfl) (fun _ h => by cases h) keyringNil_row_tie rfl ⟨rfl, rfl⟩ (by kernel_rfl) rfl
    (fun f fn hf hfn => by
      obtain rfl : f = 10 := Option.some.inj ((show Tryd.prog.funcNamed "bulletin/bulletinlaw19.KeyringNil" = some 10 by kernel_rfl).symm.trans hf) |>.symm
      obtain rfl : fn = Tryd.f10 := (Option.some.inj (Tryd.func10.symm.trans hfn)).symm
      exact ⟨by kernel_rfl, fun j t ht => by
        rw [Tryd.params10] at ht
        have ht := List.mem_of_getElem? (by simpa using ht)
        have key : ∀ t ∈ ([41, 3] : List TypeId), Tryd.prog.wantsStandIn t = false := by
          intro t ht
          simp only [List.mem_cons, List.not_mem_nil, or_false] at ht
          rcases ht with rfl | rfl <;> kernel_rfl
        exact key t (by simpa using ht)⟩)
    (by kernel_rfl)
#print axioms keyringNil_holds
end Go.Proofs.YtbkgibgomohdjaaDoor
