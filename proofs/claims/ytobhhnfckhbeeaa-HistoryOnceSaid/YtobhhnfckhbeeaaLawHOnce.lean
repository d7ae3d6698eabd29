/-
  HistoryOnce returns true for every input. No condition.
-/
import Derived.Test.YtobhhnfckhbeeaaRows
import Derived.Test.YtobhhnfckhbeeaaPlay
namespace Go.Proofs.Ytobhhnfckhbeeaa
open Go.Eng Go.RowKit Go.Sort

/-- what was accepted is there, or it was forgotten -/
def Acc (s : Hi) (x : HEnt) : Prop := (∃ y, lkM s.M x.id = some y ∧ y.date = x.date ∧ y.perm = x.perm) ∨ (x.perm = false ∧ old x.date s.cut = true)
theorem Acc.no {s : Hi} {x : HEnt} (h : Acc s x) (now : Int) : s.judge x.id x.date now x.perm ≠ 0 := by
  unfold Hi.judge
  split
  · decide
  · split
    · decide
    · split
      · decide
      · split
        · decide
        · rename_i h0 h3 h1 h2
          rcases h with ⟨y, hy, _⟩ | ⟨hp, ho⟩
          · rw [hy] at h3; simp at h3
          · exact absurd ⟨hp, .inr ho⟩ h2
theorem Acc.gone {s : Hi} {x : HEnt} (h : Acc s x) (a : Vec 32) : Acc (s.goneS a) x := by
  unfold Hi.goneS
  split
  · exact h
  · rename_i z hz
    split
    · exact h
    · rcases h with ⟨y, hy, h1, h2⟩ | h
      · left
        show ∃ y, lkM (putM a z.gone s.M) x.id = some y ∧ _
        rw [lkM_put]
        by_cases ha : x.id = a
        · rw [if_pos ha]
          rw [ha, hz] at hy
          obtain rfl : z = y := by simpa using hy
          exact ⟨z.gone, rfl, h1, h2⟩
        · rw [if_neg ha]; exact ⟨y, hy, h1, h2⟩
      · exact .inr h
theorem old_mono {d n m : Int} (h : old d n = true) (k : n ≤ m) : old d m = true := by
  simp only [old, decide_eq_true_eq] at h ⊢; omega
theorem Acc.forget {s : Hi} {L : List HEnt} {x : HEnt} (h : Acc s x) (ho : Ord s L) (now : Int) : Acc (s.fgS now L) x := by
  unfold Hi.fgS
  cases hm : isMin now with
  | false => exact h
  | true =>
    rcases h with ⟨y, hy, h1, h2⟩ | ⟨h1, h2⟩
    · have hyi := ho.keyOf hy
      by_cases hf : fgt now y = true
      · right
        have hy2 : y ∈ L := (ho.lk y).2 (by rw [hyi]; exact hy)
        have hne : 0 < (fgIds now L).length := by
          unfold fgIds
          rw [List.length_map]
          exact List.length_pos_of_mem (List.mem_filter.2 ⟨hy2, hf⟩)
        simp only [fgt, Bool.and_eq_true, decide_eq_true_eq, Bool.not_eq_true'] at hf
        simp only [if_true, if_pos hne]
        rw [← h1, ← h2]
        exact ⟨hf.2.1, old_mono hf.2.2 (by omega)⟩
      · left
        simp only [if_true]
        rw [delAll_lk ho.ok.nd, if_neg]
        · exact ⟨y, hy, h1, h2⟩
        · intro hx
          unfold fgIds at hx
          obtain ⟨z, hz, hzi⟩ := List.mem_map.1 hx
          obtain ⟨hz1, hz2⟩ := List.mem_filter.1 hz
          have h3 := (ho.lk z).1 hz1
          rw [hzi, hy] at h3
          obtain rfl : y = z := by simpa using h3
          exact hf hz2
    · right
      simp only [if_true]
      refine ⟨h1, ?_⟩
      split
      · exact old_mono h2 (by omega)
      · exact h2
theorem Acc.added {s : Hi} {x : HEnt} (h : s.addE x = 0) : Acc (s.addS x) x := by
  unfold Hi.addS
  rw [if_pos h]
  left
  refine ⟨x, ?_, rfl, rfl⟩
  show lkM (putM x.id x s.M) x.id = some x
  rw [lkM_put, if_pos rfl]

theorem once_walk (w : World) (v0 : Value) (a0 : ArgV Try.prog w 34 v0) (v1 : Value) (a1 : ArgV Try.prog w 24 v1) (v2 : Value) (a2 : ArgV Try.prog w 34 v2) (v3 : Value) (a3 : ArgV Try.prog w 3 v3) (v4 : Value) (a4 : ArgV Try.prog w 3 v4) : Ret Try.prog 5 #[v0, v1, v2, v3, v4] w fun r w' => r = .bool true ∧ Mod [] w w' := by
  obtain ⟨ad, cap, ops, rfl, hc, hcm, hr⟩ := argv_o a0
  obtain ⟨x, rfl⟩ := argv_x a1
  obtain ⟨ad2, cap2, ops2, rfl, hc2, hcm2, hr2⟩ := argv_o a2
  obtain ⟨now, rfl, _⟩ := argv_int a3 Try.underlying3
  obtain ⟨then_, rfl, _⟩ := argv_int a4 Try.underlying3
  unfold maxLen at hcm hcm2
  have hs := Sat.start w
  refine Ret.enter (n := 101) (args := [.slice ad ops.length cap, evH x, .slice ad2 ops2.length cap2, .int .i64 now, .int .i64 then_]) Try.func5 rfl rfl ?_
  refine C.keep [(0, _), (1, _), (2, _), (3, _), (4, _)] ⟨rfl, rfl, rfl, rfl, rfl, trivial⟩ ?_
  refine C.seq ?_
  refine C.region ?_
  refine R.sboxA hs rfl rfl ?_
  intro b6 w6 hs
  refine R.ev rfl (E.assign rfl) ?_
  refine R.done ?_
  refine X.keep [(0, _), (2, _), (3, _), (4, _), (6, _)] ⟨rfl, rfl, rfl, rfl, rfl, trivial⟩ ?_
  refine X.next ?_
  refine C.seq ?_
  refine C.seq ?_
  refine C.region ?_
  refine R.call ⟨_, _, Try.func13, rfl, by kernel_rfl⟩ rfl rfl (known_any hs) ?_
  rintro _ w1 ⟨rfl, hs⟩
  refine R.ev rfl (E.notT rfl) ?_
  refine R.done ?_
  refine X.keep [(0, _), (2, _), (3, _), (4, _), (6, _), (17, _)] ⟨rfl, rfl, rfl, rfl, rfl, rfl, trivial⟩ ?_
  refine X.next ?_
  refine C.cfalse rfl ?_
  refine C.skip ?_
  refine X.next ?_
  refine C.seq ?_
  refine C.region ?_
  refine R.ev rfl (E.move rfl) ?_
  refine R.call ⟨_, _, Try.func17, rfl, by kernel_rfl⟩ rfl rfl (play_any hs (by omega)) ?_
  rintro _ w3 ⟨K3, p, s, L, v3, F3, rfl, hk3, hr3, hI, hw3, hs⟩
  have o3 : OneC v3 := ⟨KRow.oneC' hr3⟩
  have hIl := hI.len
  have hIm := hI.mlen
  refine R.ev rfl (E.move rfl) ?_
  refine R.ev rfl (E.extract rfl rfl) ?_
  refine R.ev rfl (E.extract rfl rfl) ?_
  refine R.ev rfl (E.extract rfl rfl) ?_
  refine R.ev rfl (E.extract rfl rfl) ?_
  refine R.ev rfl (E.assign rfl) ?_
  refine R.ev rfl (E.assign rfl) ?_
  refine R.ev rfl (E.assign rfl) ?_
  refine R.ev rfl (E.assign rfl) ?_
  refine R.done ?_
  refine X.keep [(2, _), (3, _), (4, _), (6, _), (11, _), (14, _)] ⟨rfl, rfl, rfl, rfl, rfl, rfl, trivial⟩ ?_
  refine X.next ?_
  refine C.seq ?_
  refine C.seq ?_
  refine C.region ?_
  refine R.ev rfl (E.move rfl) ?_
  refine R.ev rfl (E.notT rfl) ?_
  refine R.ev rfl (E.move rfl) ?_
  refine R.gyes rfl rfl ?_
  refine R.ev rfl (E.move rfl) ?_
  refine R.gyes rfl rfl ?_
  first | refine R.ev rfl (E.fieldAddr0 0 rfl Try.underlying24 rfl Try.sz22 rfl) ?_ | refine R.ev rfl (E.fieldAddrN 0 rfl Try.underlying24 rfl Try.sz22 rfl) ?_
  refine R.gyes rfl rfl ?_
  refine R.ev rfl (E.loadRowC rfl Try.underlying22 rfl Try.sz22 (by first | exact ⟨hs.ldA, by first | rfl | assumption | exact encV_len _ | exact Enc.len _ | exact len_ub (by assumption)⟩ | exact ⟨hs.ldP rfl, by first | rfl | assumption | exact encV_len _ | exact Enc.len _ | exact len_ub (by assumption)⟩ | exact ⟨hs.ldM rfl rfl, by first | rfl | assumption | exact encV_len _ | exact Enc.len _ | exact len_ub (by assumption)⟩ | exact ⟨hs.ldM (by assumption) (by first | rfl | assumption), by first | rfl | assumption | exact encV_len _ | exact Enc.len _ | exact len_ub (by assumption)⟩ | exact ⟨by assumption, by first | rfl | assumption | exact encV_len _ | exact Enc.len _ | exact len_ub (by assumption)⟩ | exact hs.ldp | exact At.partC (by assumption))) ?_
  refine R.gyes rfl rfl ?_
  first | refine R.ev rfl (E.fieldAddr0 33 rfl Try.underlying24 rfl Try.sz3 rfl) ?_ | refine R.ev rfl (E.fieldAddrN 33 rfl Try.underlying24 rfl Try.sz3 rfl) ?_
  refine R.gyes rfl rfl ?_
  refine R.ev rfl (E.load1 rfl Try.underlying3 rfl (by first | exact hs.ldc | exact hs.ld rfl | exact hs.ld (by assumption) | exact by assumption | exact At.cellC (by assumption))) ?_
  refine R.gyes rfl rfl ?_
  refine R.ev rfl (E.move rfl) ?_
  refine R.gyes rfl rfl ?_
  first | refine R.ev rfl (E.fieldAddr0 35 rfl Try.underlying24 rfl Try.sz4 rfl) ?_ | refine R.ev rfl (E.fieldAddrN 35 rfl Try.underlying24 rfl Try.sz4 rfl) ?_
  refine R.gyes rfl rfl ?_
  refine R.ev rfl (E.load1 rfl Try.underlying4 rfl (by first | exact hs.ldc | exact hs.ld rfl | exact hs.ld (by assumption) | exact by assumption | exact At.cellC (by assumption))) ?_
  refine R.gyes rfl rfl ?_
  refine R.call ⟨_, _, Try.func18, rfl, by kernel_rfl⟩ rfl rfl (judge_any x.id x.date now x.perm hI.cut hs) ?_
  rintro _ w411 ⟨rfl, hs⟩
  refine R.gyes rfl rfl ?_
  refine R.ev rfl (E.neq rfl rfl) ?_
  refine R.ev rfl (E.pickF rfl rfl) ?_
  refine R.ev rfl (E.move rfl) ?_
  refine R.split 39 rfl (fun h39 => ?_) (fun h39 => ?_)
  · refine R.gskip rfl rfl rfl ?_
    refine R.gskip rfl rfl rfl ?_
    refine R.gskip rfl rfl rfl ?_
    refine R.gskip rfl rfl rfl ?_
    refine R.gskip rfl rfl rfl ?_
    refine R.ev rfl (E.pickT rfl rfl) ?_
    refine R.done ?_
    refine X.keep [(2, _), (4, _), (6, _), (11, _), (14, _), (45, _)] ⟨rfl, rfl, rfl, rfl, rfl, rfl, trivial⟩ ?_
    refine X.next ?_
    refine C.ctrue rfl ?_
    refine C.seq ?_
    refine C.region ?_
    refine R.ev rfl (E.move rfl) ?_
    refine R.ev rfl (E.assign rfl) ?_
    refine R.done ?_
    refine X.keep [(10, _)] ⟨rfl, trivial⟩ ?_
    refine X.next ?_
    refine C.ret ?_
    refine X.thenRet ?_
    refine X.ret1 rfl rfl ?_
    exact ⟨rfl, (hs.less hk3.le).mod⟩
  · refine R.gyes rfl rfl ?_
    refine R.ev rfl (E.move rfl) ?_
    refine R.gyes rfl rfl ?_
    refine R.ev rfl (E.loadRowC rfl Try.underlying24 rfl Try.sz24 (by first | exact ⟨hs.ldA, by first | rfl | assumption | exact encV_len _ | exact Enc.len _ | exact len_ub (by assumption)⟩ | exact ⟨hs.ldP rfl, by first | rfl | assumption | exact encV_len _ | exact Enc.len _ | exact len_ub (by assumption)⟩ | exact ⟨hs.ldM rfl rfl, by first | rfl | assumption | exact encV_len _ | exact Enc.len _ | exact len_ub (by assumption)⟩ | exact ⟨hs.ldM (by assumption) (by first | rfl | assumption), by first | rfl | assumption | exact encV_len _ | exact Enc.len _ | exact len_ub (by assumption)⟩ | exact ⟨by assumption, by first | rfl | assumption | exact encV_len _ | exact Enc.len _ | exact len_ub (by assumption)⟩ | exact hs.ldp | exact At.partC (by assumption))) ?_
    refine R.gyes rfl rfl ?_
    refine R.call ⟨_, _, Try.func14, rfl, by kernel_rfl⟩ rfl rfl (to_any x hs) ?_
    rintro _ w417 ⟨rfl, hs⟩
    refine R.gyes rfl rfl ?_
    refine R.call ⟨_, _, Try.func20, rfl, by kernel_rfl⟩ rfl rfl (add_any x (hs.front (F := F3))) ?_
    rintro _ w418 ⟨rfl, F4, hw4, hs1⟩
    have hs := hs.back (F := F3) hs1
    refine R.gyes rfl rfl ?_
    refine R.ev rfl (E.neq rfl rfl) ?_
    refine R.ev rfl (E.pickF rfl rfl) ?_
    refine R.done ?_
    refine X.keep [(2, _), (4, _), (6, _), (11, _), (14, _), (45, _)] ⟨rfl, rfl, rfl, rfl, rfl, rfl, trivial⟩ ?_
    refine X.next ?_
    refine C.cbool rfl (fun h45 => ?_) (fun h45 => ?_)
    · refine C.seq ?_
      refine C.region ?_
      refine R.ev rfl (E.move rfl) ?_
      refine R.ev rfl (E.assign rfl) ?_
      refine R.done ?_
      refine X.keep [(10, _)] ⟨rfl, trivial⟩ ?_
      refine X.next ?_
      refine C.ret ?_
      refine X.thenRet ?_
      refine X.ret1 rfl rfl ?_
      exact ⟨rfl, (hs.less hk3.le).mod⟩
    · refine C.skip ?_
      refine X.next ?_
      refine C.seq ?_
      refine C.seq ?_
      refine C.region ?_
      have hA : Acc (s.addS x) x := Acc.added (by have := of_decide_eq_false h45; simpa using this)
      have hI1 := hI.add x (by omega)
      refine R.ev rfl (E.assign rfl) ?_
      refine R.done ?_
      refine X.keep [(2, _), (4, _), (6, _), (11, _), (15, _)] ⟨rfl, rfl, rfl, rfl, rfl, trivial⟩ ?_
      refine X.next ?_
      refine C.block ?_
      refine C.loop (T := Nat × Hi × List HEnt × Hl) [(2, _), (4, _), (6, _), (11, _)] (fun (k, _, _, _) => [(15, .int .i64 (k : Nat))]) (fun (k, s, L, F1) w' => k ≤ ops2.length ∧ k ≤ 40 ∧ PInv 41 s L ∧ Acc s x ∧ HiL p s F1 ∧ Sat K3 w' (row b6 24 (encH x) :: F1 :: [])) (fun (k, _) => 40 - k) ((0, s.addS x, rAddL L x, F4)) ⟨rfl, rfl, rfl, rfl, rfl, trivial⟩ ⟨Nat.zero_le _, Nat.zero_le _, hI1, hA, hw4, hs.to⟩ ?_
      rintro ⟨k, s1, L1, F1⟩ w5 ⟨hk, hk40, hI, hA, hw1, hs⟩
      refine C.keep [(2, _), (4, _), (6, _), (11, _), (15, _)] ⟨rfl, rfl, rfl, rfl, rfl, trivial⟩ ?_
      refine C.seq ?_
      refine C.seq ?_
      refine C.region ?_
      refine R.ev rfl (E.move rfl) ?_
      refine R.ev rfl (E.move rfl) ?_
      refine R.ev rfl (E.lenSl rfl Try.underlying34) ?_
      refine R.ev rfl (E.lss rfl rfl) ?_
      refine R.ev rfl (E.move rfl) ?_
      refine R.split 51 rfl (fun h51 => ?_) (fun h51 => ?_)
      · refine R.gyes rfl rfl ?_
        refine R.ev rfl (E.move rfl) ?_
        refine R.gyes rfl rfl ?_
        refine R.ev rfl (E.lss rfl rfl) ?_
        refine R.ev rfl (E.pickT rfl rfl) ?_
        refine R.done ?_
        refine X.keep [(2, _), (4, _), (6, _), (11, _), (15, _), (54, _)] ⟨rfl, rfl, rfl, rfl, rfl, rfl, trivial⟩ ?_
        refine X.next ?_
        refine C.cbool rfl (fun h54 => ?_) (fun h54 => ?_)
        · refine C.skip ?_
          refine X.next ?_
          refine C.seq ?_
          refine C.block ?_
          refine C.seq ?_
          refine C.seq ?_
          refine C.region ?_
          have hk2 : k < 40 := by have := of_decide_eq_true h54; omega
          have hkl : k < ops2.length := by have := of_decide_eq_true h51; omega
          obtain ⟨y, bk_y, of_y, hy, my, ly, rfl, Ay⟩ := hs.el (i := k) (ad := ad2) (n := ops2.length) (c := cap2) (by omega)
          have ay := Ay _ hs
          refine R.ev rfl (E.move rfl) ?_
          refine R.ev rfl (E.move rfl) ?_
          refine R.ev rfl (E.indexAddr (i := k) rfl rfl Try.underlying34 Try.sz44 rfl (by omega)) ?_
          first | refine R.ev rfl (E.fieldAddr0 0 rfl Try.underlying44 rfl Try.sz5 rfl) ?_ | refine R.ev rfl (E.fieldAddrN 0 rfl Try.underlying44 rfl Try.sz5 rfl) ?_
          refine R.ev rfl (E.load1 rfl Try.underlying5 rfl (by first | exact hs.ldc | exact hs.ld rfl | exact hs.ld (by assumption) | exact by assumption | exact At.cellC (by assumption))) ?_
          refine R.ev rfl (E.rem rfl rfl (by omega) (by omega)) ?_
          refine R.ev rfl (E.eql rfl rfl) ?_
          refine R.done ?_
          refine X.keep [(2, _), (4, _), (6, _), (11, _), (15, _), (63, _)] ⟨rfl, rfl, rfl, rfl, rfl, rfl, trivial⟩ ?_
          refine X.next ?_
          refine C.cut [(2, _), (4, _), (6, _), (11, _), (15, _)] (fun (t : Hi × List HEnt × Hl) => []) (fun (s, L, F1) w' => PInv 41 s L ∧ Acc s x ∧ HiL p s F1 ∧ Sat K3 w' (row b6 24 (encH x) :: F1 :: [])) ⟨rfl, rfl, rfl, rfl, rfl, trivial⟩ ?_ ?_
          · refine C.cdec rfl (fun h63 => ?_) (fun h63 => ?_)
            · refine C.region ?_
              have ay2 := (At.partC (i := 1) (m := 36) ay).1
              refine R.ev rfl (E.move rfl) ?_
              refine R.ev rfl (E.move rfl) ?_
              refine R.ev rfl (E.move rfl) ?_
              refine R.ev rfl (E.indexAddr (i := k) rfl rfl Try.underlying34 Try.sz44 rfl (by omega)) ?_
              first | refine R.ev rfl (E.fieldAddr0 1 rfl Try.underlying44 rfl Try.sz24 rfl) ?_ | refine R.ev rfl (E.fieldAddrN 1 rfl Try.underlying44 rfl Try.sz24 rfl) ?_
              first | refine R.ev rfl (E.fieldAddr0 0 rfl Try.underlying24 rfl Try.sz22 rfl) ?_ | refine R.ev rfl (E.fieldAddrN 0 rfl Try.underlying24 rfl Try.sz22 rfl) ?_
              refine R.ev rfl (E.loadRowC rfl Try.underlying22 rfl Try.sz22 (by first | exact ⟨hs.ldA, by first | rfl | assumption | exact encV_len _ | exact Enc.len _ | exact len_ub (by assumption)⟩ | exact ⟨hs.ldP rfl, by first | rfl | assumption | exact encV_len _ | exact Enc.len _ | exact len_ub (by assumption)⟩ | exact ⟨hs.ldM rfl rfl, by first | rfl | assumption | exact encV_len _ | exact Enc.len _ | exact len_ub (by assumption)⟩ | exact ⟨hs.ldM (by assumption) (by first | rfl | assumption), by first | rfl | assumption | exact encV_len _ | exact Enc.len _ | exact len_ub (by assumption)⟩ | exact ⟨by assumption, by first | rfl | assumption | exact encV_len _ | exact Enc.len _ | exact len_ub (by assumption)⟩ | exact hs.ldp | exact At.partC (by assumption))) ?_
              refine R.call ⟨_, _, Try.func21, rfl, by kernel_rfl⟩ rfl rfl (setGone_any y.x.id (hs.front (F := F1))) ?_
              rintro _ w10 ⟨rfl, F5, hw5, hs1⟩
              have hs := hs.back (F := F1) hs1
              refine R.done ?_
              refine X.keep [(2, _), (4, _), (6, _), (11, _), (15, _)] ⟨rfl, rfl, rfl, rfl, rfl, trivial⟩ ?_
              first
                | exact X.cut (s1.goneS y.x.id, rGoneL L1 y.x.id, F5) ⟨rfl, rfl, rfl, rfl, rfl, trivial⟩ ⟨hI.gone _, hA.gone _, hw5, hs.to⟩
                | exact X.cut (s1, L1, F1) ⟨rfl, rfl, rfl, rfl, rfl, trivial⟩ ⟨hI, hA, hw1, hs.to⟩
            · refine C.skip ?_
              first
                | exact X.cut (s1.goneS y.x.id, rGoneL L1 y.x.id, F5) ⟨rfl, rfl, rfl, rfl, rfl, trivial⟩ ⟨hI.gone _, hA.gone _, hw5, hs.to⟩
                | exact X.cut (s1, L1, F1) ⟨rfl, rfl, rfl, rfl, rfl, trivial⟩ ⟨hI, hA, hw1, hs.to⟩
          · rintro ⟨s1, L1, F1⟩ w6 ⟨hI, hA, hw1, hs⟩
            refine X.keep [(2, _), (4, _), (6, _), (11, _), (15, _)] ⟨rfl, rfl, rfl, rfl, rfl, trivial⟩ ?_
            refine X.next ?_
            refine C.seq ?_
            refine C.region ?_
            replace Ay := hs.elAt (b := bk_y) (off := of_y) (n := ops2.length) (cap2) hy
            have ay := Ay _ hs
            refine R.ev rfl (E.move rfl) ?_
            refine R.ev rfl (E.move rfl) ?_
            refine R.ev rfl (E.indexAddr (i := k) rfl rfl Try.underlying34 Try.sz44 rfl (by omega)) ?_
            first | refine R.ev rfl (E.fieldAddr0 0 rfl Try.underlying44 rfl Try.sz5 rfl) ?_ | refine R.ev rfl (E.fieldAddrN 0 rfl Try.underlying44 rfl Try.sz5 rfl) ?_
            refine R.ev rfl (E.load1 rfl Try.underlying5 rfl (by first | exact hs.ldc | exact hs.ld rfl | exact hs.ld (by assumption) | exact by assumption | exact At.cellC (by assumption))) ?_
            refine R.ev rfl (E.rem rfl rfl (by omega) (by omega)) ?_
            refine R.ev rfl (E.eql rfl rfl) ?_
            refine R.done ?_
            refine X.keep [(2, _), (4, _), (6, _), (11, _), (15, _), (78, _)] ⟨rfl, rfl, rfl, rfl, rfl, rfl, trivial⟩ ?_
            refine X.next ?_
            refine C.cdec rfl (fun h78 => ?_) (fun h78 => ?_)
            · refine C.seq ?_
              refine C.region ?_
              refine R.ev rfl (E.move rfl) ?_
              first | refine R.ev rfl (E.fieldAddr0 0 rfl Try.underlying24 rfl Try.sz22 rfl) ?_ | refine R.ev rfl (E.fieldAddrN 0 rfl Try.underlying24 rfl Try.sz22 rfl) ?_
              refine R.ev rfl (E.loadRowC rfl Try.underlying22 rfl Try.sz22 (by first | exact ⟨hs.ldA, by first | rfl | assumption | exact encV_len _ | exact Enc.len _ | exact len_ub (by assumption)⟩ | exact ⟨hs.ldP rfl, by first | rfl | assumption | exact encV_len _ | exact Enc.len _ | exact len_ub (by assumption)⟩ | exact ⟨hs.ldM rfl rfl, by first | rfl | assumption | exact encV_len _ | exact Enc.len _ | exact len_ub (by assumption)⟩ | exact ⟨hs.ldM (by assumption) (by first | rfl | assumption), by first | rfl | assumption | exact encV_len _ | exact Enc.len _ | exact len_ub (by assumption)⟩ | exact ⟨by assumption, by first | rfl | assumption | exact encV_len _ | exact Enc.len _ | exact len_ub (by assumption)⟩ | exact hs.ldp | exact At.partC (by assumption))) ?_
              refine R.call ⟨_, _, Try.func21, rfl, by kernel_rfl⟩ rfl rfl (setGone_any x.id (hs.front (F := F1))) ?_
              rintro _ w12 ⟨rfl, F5, hw5, hs1⟩
              have hs := hs.back (F := F1) hs1
              have hI5 := hI.gone x.id
              refine R.done ?_
              refine X.keep [(2, _), (4, _), (6, _), (11, _), (15, _)] ⟨rfl, rfl, rfl, rfl, rfl, trivial⟩ ?_
              refine X.next ?_
              refine C.region ?_
              replace Ay := hs.elAt (b := bk_y) (off := of_y) (n := ops2.length) (cap2) hy
              have ay := Ay _ hs
              have ay2 := (At.partC (i := 1) (m := 36) ay).1
              refine R.ev rfl (E.move rfl) ?_
              refine R.ev rfl (E.move rfl) ?_
              refine R.ev rfl (E.move rfl) ?_
              refine R.ev rfl (E.indexAddr (i := k) rfl rfl Try.underlying34 Try.sz44 rfl (by omega)) ?_
              first | refine R.ev rfl (E.fieldAddr0 1 rfl Try.underlying44 rfl Try.sz24 rfl) ?_ | refine R.ev rfl (E.fieldAddrN 1 rfl Try.underlying44 rfl Try.sz24 rfl) ?_
              first | refine R.ev rfl (E.fieldAddr0 32 rfl Try.underlying24 rfl Try.sz3 rfl) ?_ | refine R.ev rfl (E.fieldAddrN 32 rfl Try.underlying24 rfl Try.sz3 rfl) ?_
              refine R.ev rfl (E.load1 rfl Try.underlying3 rfl (by first | exact hs.ldc | exact hs.ld rfl | exact hs.ld (by assumption) | exact by assumption | exact At.cellC (by assumption))) ?_
              refine R.call ⟨_, _, Try.func22, rfl, by kernel_rfl⟩ rfl rfl (forget_any y.x.arr hI5.ord (hs.front (F := F5))) ?_
              rintro v13 w13 ⟨F9, G9, r9, hw9, hs1⟩
              have hs := hs.back2 (F := F5) hs1
              refine R.done ?_
              refine X.keep [(2, _), (4, _), (6, _), (11, _), (15, _)] ⟨rfl, rfl, rfl, rfl, rfl, trivial⟩ ?_
              refine X.blockNormal ?_
              refine X.next ?_
              refine C.region ?_
              refine R.ev rfl (E.move rfl) ?_
              refine R.ev rfl (E.add rfl rfl (by omega) (by omega)) ?_
              refine R.ev rfl (E.assign rfl) ?_
              refine R.done ?_
              refine X.keep [(2, _), (4, _), (6, _), (11, _), (15, _)] ⟨rfl, rfl, rfl, rfl, rfl, trivial⟩ ?_
              first
                | exact X.again (k + 1, (s1.goneS x.id).fgS y.x.arr (rGoneL L1 x.id), rFRest y.x.arr (rGoneL L1 x.id), F9) ⟨rfl, rfl, rfl, rfl, rfl, trivial⟩ ⟨by omega, by omega, hI5.forget _, (hA.gone _).forget hI5.ord _, hw9, hs.to⟩ (by show _ - _ < _ - _; omega)
                | exact X.again (k + 1, s1, L1, F1) ⟨rfl, rfl, rfl, rfl, rfl, trivial⟩ ⟨by omega, by omega, hI, hA, hw1, hs.to⟩ (by show _ - _ < _ - _; omega)
            · refine C.skip ?_
              refine X.blockNormal ?_
              refine X.next ?_
              refine C.region ?_
              refine R.ev rfl (E.move rfl) ?_
              refine R.ev rfl (E.add rfl rfl (by omega) (by omega)) ?_
              refine R.ev rfl (E.assign rfl) ?_
              refine R.done ?_
              refine X.keep [(2, _), (4, _), (6, _), (11, _), (15, _)] ⟨rfl, rfl, rfl, rfl, rfl, trivial⟩ ?_
              first
                | exact X.again (k + 1, (s1.goneS x.id).fgS y.x.arr (rGoneL L1 x.id), rFRest y.x.arr (rGoneL L1 x.id), F9) ⟨rfl, rfl, rfl, rfl, rfl, trivial⟩ ⟨by omega, by omega, hI5.forget _, (hA.gone _).forget hI5.ord _, hw9, hs.to⟩ (by show _ - _ < _ - _; omega)
                | exact X.again (k + 1, s1, L1, F1) ⟨rfl, rfl, rfl, rfl, rfl, trivial⟩ ⟨by omega, by omega, hI, hA, hw1, hs.to⟩ (by show _ - _ < _ - _; omega)
        · refine C.exit ?_
          refine X.thenExit ?_
          refine X.loopExit ?_
          refine X.blockExit ?_
          refine X.next ?_
          refine C.seq ?_
          refine C.region ?_
          refine R.ev rfl (E.move rfl) ?_
          first | refine R.ev rfl (E.fieldAddr0 0 rfl Try.underlying24 rfl Try.sz22 rfl) ?_ | refine R.ev rfl (E.fieldAddrN 0 rfl Try.underlying24 rfl Try.sz22 rfl) ?_
          refine R.ev rfl (E.loadRowC rfl Try.underlying22 rfl Try.sz22 (by first | exact ⟨hs.ldA, by first | rfl | assumption | exact encV_len _ | exact Enc.len _ | exact len_ub (by assumption)⟩ | exact ⟨hs.ldP rfl, by first | rfl | assumption | exact encV_len _ | exact Enc.len _ | exact len_ub (by assumption)⟩ | exact ⟨hs.ldM rfl rfl, by first | rfl | assumption | exact encV_len _ | exact Enc.len _ | exact len_ub (by assumption)⟩ | exact ⟨hs.ldM (by assumption) (by first | rfl | assumption), by first | rfl | assumption | exact encV_len _ | exact Enc.len _ | exact len_ub (by assumption)⟩ | exact ⟨by assumption, by first | rfl | assumption | exact encV_len _ | exact Enc.len _ | exact len_ub (by assumption)⟩ | exact hs.ldp | exact At.partC (by assumption))) ?_
          first | refine R.ev rfl (E.fieldAddr0 33 rfl Try.underlying24 rfl Try.sz3 rfl) ?_ | refine R.ev rfl (E.fieldAddrN 33 rfl Try.underlying24 rfl Try.sz3 rfl) ?_
          refine R.ev rfl (E.load1 rfl Try.underlying3 rfl (by first | exact hs.ldc | exact hs.ld rfl | exact hs.ld (by assumption) | exact by assumption | exact At.cellC (by assumption))) ?_
          refine R.ev rfl (E.move rfl) ?_
          first | refine R.ev rfl (E.fieldAddr0 35 rfl Try.underlying24 rfl Try.sz4 rfl) ?_ | refine R.ev rfl (E.fieldAddrN 35 rfl Try.underlying24 rfl Try.sz4 rfl) ?_
          refine R.ev rfl (E.load1 rfl Try.underlying4 rfl (by first | exact hs.ldc | exact hs.ld rfl | exact hs.ld (by assumption) | exact by assumption | exact At.cellC (by assumption))) ?_
          refine R.call ⟨_, _, Try.func18, rfl, by kernel_rfl⟩ rfl rfl (judge_any x.id x.date then_ x.perm hI.cut hs) ?_
          rintro _ w148 ⟨rfl, hs⟩
          refine R.ev rfl ((E.neq rfl rfl).isT (hA.no _)) ?_
          refine R.ev rfl (E.assign rfl) ?_
          refine R.done ?_
          refine X.keep [(10, _)] ⟨rfl, trivial⟩ ?_
          refine X.next ?_
          refine C.ret ?_
          refine X.ret1 rfl rfl ?_
          exact ⟨rfl, (hs.less hk3.le).mod⟩
      · refine R.gskip rfl rfl rfl ?_
        refine R.gskip rfl rfl rfl ?_
        refine R.ev rfl (E.pickF rfl rfl) ?_
        refine R.done ?_
        refine X.keep [(2, _), (4, _), (6, _), (11, _), (15, _), (54, _)] ⟨rfl, rfl, rfl, rfl, rfl, rfl, trivial⟩ ?_
        refine X.next ?_
        refine C.cfalse rfl ?_
        refine C.exit ?_
        refine X.thenExit ?_
        refine X.loopExit ?_
        refine X.blockExit ?_
        refine X.next ?_
        refine C.seq ?_
        refine C.region ?_
        refine R.ev rfl (E.move rfl) ?_
        first | refine R.ev rfl (E.fieldAddr0 0 rfl Try.underlying24 rfl Try.sz22 rfl) ?_ | refine R.ev rfl (E.fieldAddrN 0 rfl Try.underlying24 rfl Try.sz22 rfl) ?_
        refine R.ev rfl (E.loadRowC rfl Try.underlying22 rfl Try.sz22 (by first | exact ⟨hs.ldA, by first | rfl | assumption | exact encV_len _ | exact Enc.len _ | exact len_ub (by assumption)⟩ | exact ⟨hs.ldP rfl, by first | rfl | assumption | exact encV_len _ | exact Enc.len _ | exact len_ub (by assumption)⟩ | exact ⟨hs.ldM rfl rfl, by first | rfl | assumption | exact encV_len _ | exact Enc.len _ | exact len_ub (by assumption)⟩ | exact ⟨hs.ldM (by assumption) (by first | rfl | assumption), by first | rfl | assumption | exact encV_len _ | exact Enc.len _ | exact len_ub (by assumption)⟩ | exact ⟨by assumption, by first | rfl | assumption | exact encV_len _ | exact Enc.len _ | exact len_ub (by assumption)⟩ | exact hs.ldp | exact At.partC (by assumption))) ?_
        first | refine R.ev rfl (E.fieldAddr0 33 rfl Try.underlying24 rfl Try.sz3 rfl) ?_ | refine R.ev rfl (E.fieldAddrN 33 rfl Try.underlying24 rfl Try.sz3 rfl) ?_
        refine R.ev rfl (E.load1 rfl Try.underlying3 rfl (by first | exact hs.ldc | exact hs.ld rfl | exact hs.ld (by assumption) | exact by assumption | exact At.cellC (by assumption))) ?_
        refine R.ev rfl (E.move rfl) ?_
        first | refine R.ev rfl (E.fieldAddr0 35 rfl Try.underlying24 rfl Try.sz4 rfl) ?_ | refine R.ev rfl (E.fieldAddrN 35 rfl Try.underlying24 rfl Try.sz4 rfl) ?_
        refine R.ev rfl (E.load1 rfl Try.underlying4 rfl (by first | exact hs.ldc | exact hs.ld rfl | exact hs.ld (by assumption) | exact by assumption | exact At.cellC (by assumption))) ?_
        refine R.call ⟨_, _, Try.func18, rfl, by kernel_rfl⟩ rfl rfl (judge_any x.id x.date then_ x.perm hI.cut hs) ?_
        rintro _ w148 ⟨rfl, hs⟩
        refine R.ev rfl ((E.neq rfl rfl).isT (hA.no _)) ?_
        refine R.ev rfl (E.assign rfl) ?_
        refine R.done ?_
        refine X.keep [(10, _)] ⟨rfl, trivial⟩ ?_
        refine X.next ?_
        refine C.ret ?_
        refine X.ret1 rfl rfl ?_
        exact ⟨rfl, (hs.less hk3.le).mod⟩

namespace historyOnce
open Go.ChangeShapes Go.WideShapes Go.ChangeAt Go.RowKit
open Go.ChangeMaps (open_string shut_string)
set_option linter.unusedVariables false

theorem own : ownKnob Try.prog.godebug = none := by kernel_rfl
theorem laidOut : laidOutB Try.prog = true := by kernel_rfl
set_option maxRecDepth 100000 in
theorem lifted (os : Os) (started : os.Started) (H : Type) (enc : TypeId × Value → H) :
    ReturnsInHanded {} Try.checked os 5 .any (Rows.historyOnceSpec.pre6 enc Try.prog Try.f5 Rows.historyOnceRow.domain false) (Rows.historyOnceSpec.post enc Try.prog Try.f5 false true false false) := by
  refine returnsInHanded_of_change (C := Try.checked) own started (by kernel_rfl) Try.func5
    (ChangeSpec.witness6 (enc := enc) (C := Try.checked) false ⟨#[], #[.slice none 0 0, .agg #[.int .u8 0, .int .u8 0, .int .u8 0, .int .u8 0, .int .u8 0, .int .u8 0, .int .u8 0, .int .u8 0, .int .u8 0, .int .u8 0, .int .u8 0, .int .u8 0, .int .u8 0, .int .u8 0, .int .u8 0, .int .u8 0, .int .u8 0, .int .u8 0, .int .u8 0, .int .u8 0, .int .u8 0, .int .u8 0, .int .u8 0, .int .u8 0, .int .u8 0, .int .u8 0, .int .u8 0, .int .u8 0, .int .u8 0, .int .u8 0, .int .u8 0, .int .u8 0, .int .i64 0, .int .i64 0, .int .i64 0, .bool false], .slice none 0 0, .int .i64 0, .int .i64 0], []⟩ 8 (by kernel_rfl) (by kernel_rfl) (by kernel_rfl) (by kernel_rfl)) ?_
  intro W base args ds gs before hval0 hW hcnd _
  have hval : ∀ (j : Nat) t v, Try.f5.params[j]? = some t → args[j]? = some v → Value.okWide Try.prog W .any base t v := hval0
  have hW' := hW
  obtain ⟨p, q, hA0, hV, rfl, hfz, hnd⟩ := hW
  have hA : DataW.TrodAll enc Try.prog W 0 (fun _ => true) true Try.f5.params.toList args.toList ds p := hA0
  rw [Try.params5] at hA hval
  obtain ⟨v0, vs0, d0, ds0, p0, q0, hargs, rfl, rfl, h0, r0⟩ := trodAll_cons hA
  obtain ⟨v1, vs1, d1, ds1, p1, q1, rfl, rfl, rfl, h1, r1⟩ := trodAll_cons r0
  obtain ⟨v2, vs2, d2, ds2, p2, q2, rfl, rfl, rfl, h2, r2⟩ := trodAll_cons r1
  obtain ⟨v3, vs3, d3, ds3, p3, q3, rfl, rfl, rfl, h3, r3⟩ := trodAll_cons r2
  obtain ⟨v4, vs4, d4, ds4, p4, q4, rfl, rfl, rfl, h4, r4⟩ := trodAll_cons r3
  obtain ⟨rfl, rfl, rfl⟩ := trodAll_nil r4
  obtain rfl : args = #[v0, v1, v2, v3, v4] := by cases args; simp_all
  obtain ⟨rfl, rfl⟩ := trodVars_none hV
  have lt0 : ∀ x ∈ p0, x.block < W.heap.size := by obtain ⟨m, hm⟩ := h0; exact DataW.trod_lt m _ _ _ hm
  have a0 := Eng.argv_of (hval 0 34 v0 rfl rfl) h0
  have lt1 : ∀ x ∈ p1, x.block < W.heap.size := by obtain ⟨m, hm⟩ := h1; exact DataW.trod_lt m _ _ _ hm
  have a1 := Eng.argv_of (hval 1 24 v1 rfl rfl) h1
  have lt2 : ∀ x ∈ p2, x.block < W.heap.size := by obtain ⟨m, hm⟩ := h2; exact DataW.trod_lt m _ _ _ hm
  have a2 := Eng.argv_of (hval 2 34 v2 rfl rfl) h2
  have lt3 : ∀ x ∈ p3, x.block < W.heap.size := by obtain ⟨m, hm⟩ := h3; exact DataW.trod_lt m _ _ _ hm
  have a3 := Eng.argv_of (hval 3 3 v3 rfl rfl) h3
  have lt4 : ∀ x ∈ p4, x.block < W.heap.size := by obtain ⟨m, hm⟩ := h4; exact DataW.trod_lt m _ _ _ hm
  have a4 := Eng.argv_of (hval 4 3 v4 rfl rfl) h4
  clear hA0 hval0
  refine Calls.mono (once_walk W v0 a0 v1 a1 v2 a2 v3 a3 v4 a4) fun e W' ⟨v, he, hv, hm⟩ => ?_
  subst he
  subst hv
  have bel := hm.below
  exact ⟨_, rfl, _, _, _, [], _, [], hW', trodAll_mk1 (shut_bool Try.underlying4 _), (trodAll_cons_mk (Below.trod laidOut (by kernel_rfl) (of_decide_eq_true (by kernel_rfl)) h0 bel lt0) (trodAll_cons_mk (Below.trod laidOut (by kernel_rfl) (of_decide_eq_true (by kernel_rfl)) h1 bel lt1) (trodAll_cons_mk (Below.trod laidOut (by kernel_rfl) (of_decide_eq_true (by kernel_rfl)) h2 bel lt2) (trodAll_cons_mk (Below.trod laidOut (by kernel_rfl) (of_decide_eq_true (by kernel_rfl)) h3 bel lt3) (trodAll_cons_mk (Below.trod laidOut (by kernel_rfl) (of_decide_eq_true (by kernel_rfl)) h4 bel lt4) trodAll_mk0))))), rfl, bel.frame _, fun h => by cases h⟩

theorem over : Rows.historyOnceRow.holds Try.pinned (OpenSpec.ofChange Rows.historyOnceSpec) :=
  OpenClaim.holds_of_wide 5 Try.f5 rfl rfl rfl rfl rfl rfl rfl ⟨rfl, rfl, rfl, rfl, rfl⟩ rfl rfl rfl rfl rfl (by kernel_rfl) Try.func5 (by kernel_rfl)
    (of_decide_eq_true (by kernel_rfl)) (by unfold Func.isWrapper; first | (rw [if_pos (by decide +kernel)]; kernel_rfl) | (rw [if_neg (by decide +kernel)]; exact ⟨rfl, rfl⟩))
    (fun os started H enc _ => lifted os started H enc)
end historyOnce
/-- the statement -/
theorem historyOnce_holds : Rows.HistoryOnceSaid := historyOnce.over
#print axioms historyOnce_holds
end Go.Proofs.Ytobhhnfckhbeeaa
