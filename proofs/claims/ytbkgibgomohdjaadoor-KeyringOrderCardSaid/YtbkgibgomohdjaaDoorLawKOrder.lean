/-
  KeyringOrder returns true for every list of roll-overs and every list of turns: the order in which roll-overs are added does not matter. No condition but the listed table (tied to the program's text).
-/
import Derived.Test.YtbkgibgomohdjaaDoorKrQ
namespace Go.Proofs.YtbkgibgomohdjaaDoor
open Go.Eng Go.RowKit Go.Sort
theorem argv_bs {w : World} {v : Value} (h : ArgV Tryd.prog w 65 v) : ∃ ad cap, ∃ L : List UInt8, v = .slice ad L.length cap ∧ L.length ≤ cap ∧ cap ≤ maxLen ∧ KRow encB 1 (Kn.of w) v L :=
  argv_slK h Tryd.underlying65 (by kernel_rfl) (by decide) (fun _ _ _ h => fit_u8 h Tryd.underlying5)
def reid (m : Mv) (i : Nat) : Mv := { m with id := UInt8.ofNat i }
def ordL (ms : List Mv) : Nat → List Mv
  | 0 => []
  | k + 1 => ordL ms k ++ match ms[k]? with | some m => [reid m k] | none => []
theorem ordL_step {ms : List Mv} {k : Nat} {y : Mv} (h : ms[k]? = some y) : ordL ms (k + 1) = ordL ms k ++ [reid y k] := by rw [ordL, h]
theorem ordL_len {ms : List Mv} : ∀ {k : Nat}, k ≤ ms.length → (ordL ms k).length = k
  | 0, _ => rfl
  | k + 1, h => by
    rw [ordL_step (List.getElem?_eq_getElem (show k < ms.length by omega)), List.length_append, ordL_len (by omega)]; rfl
theorem ordL_id {ms : List Mv} : ∀ {k : Nat}, k ≤ ms.length → k ≤ 16 → ∀ (i : Nat) (m : Mv), (ordL ms k)[i]? = some m → m.id.toNat = i
  | 0, _, _, i, m, h => by simp [ordL] at h
  | k + 1, h1, h2, i, m, h => by
    rw [ordL_step (List.getElem?_eq_getElem (show k < ms.length by omega))] at h
    have hl := ordL_len (ms := ms) (k := k) (by omega)
    rcases Nat.lt_or_ge i k with hi | hi
    · rw [List.getElem?_append_left (by omega)] at h
      exact ordL_id (by omega) (by omega) i m h
    · rw [List.getElem?_append_right (by omega), hl] at h
      have hik : i = k := by
        have := (List.getElem?_eq_some_iff.1 h).1
        simp at this; omega
      subst hik
      simp at h
      rw [← h]
      show (UInt8.ofNat i).toNat = i
      rw [UInt8.toNat_ofNat']; omega
theorem ordL_inj {ms : List Mv} {k : Nat} (h1 : k ≤ ms.length) (h2 : k ≤ 16) : ∀ m ∈ ordL ms k, ∀ m' ∈ ordL ms k, m.id.toNat % 16 = m'.id.toNat % 16 → m = m' := fun m hm m' hm' e => by
  obtain ⟨i, hi⟩ := List.getElem?_of_mem hm
  obtain ⟨j, hj⟩ := List.getElem?_of_mem hm'
  have e1 := ordL_id h1 h2 i m hi
  have e2 := ordL_id h1 h2 j m' hj
  have l1 := (List.getElem?_eq_some_iff.1 hi).1
  have l2 := (List.getElem?_eq_some_iff.1 hj).1
  rw [ordL_len h1] at l1 l2
  have : i = j := by omega
  subst this
  rw [hi] at hj
  exact Option.some.inj hj
theorem bld_perm {l l' : List Mv} (hp : l'.Perm l) (hd : ∀ m ∈ l, ∀ m' ∈ l, m.id.toNat % 16 = m'.id.toNat % 16 → m = m') (r : RO) : r ∈ bld l' ↔ r ∈ bld l := by
  rw [bld_mem hd, bld_mem (fun m hm m' hm' => hd m (hp.mem_iff.1 hm) m' (hp.mem_iff.1 hm'))]
  exact ⟨fun ⟨m, h1, h2⟩ => ⟨m, hp.mem_iff.1 h1, h2⟩, fun ⟨m, h1, h2⟩ => ⟨m, hp.mem_iff.2 h1, h2⟩⟩
theorem swap_perm {l : List Mv} {i j : Nat} {x y : Mv} (hx : l[i]? = some x) (hy : l[j]? = some y) : ((l.set i y).set j x).Perm l := by
  obtain ⟨h1, e1⟩ := List.getElem?_eq_some_iff.1 hx
  obtain ⟨h2, e2⟩ := List.getElem?_eq_some_iff.1 hy
  rw [← e1, ← e2]
  exact List.set_set_perm h1 h2
theorem korder_walk (w : World) (hkc : HasKc (Kn.of w)) (v1 : Value) (a1 : ArgV Tryd.prog w 22 v1) (v2 : Value) (a2 : ArgV Tryd.prog w 65 v2) : Ret Tryd.prog 6 #[v1, v2] w fun r w' => r = .bool true ∧ Mod [] w w' := by
  obtain ⟨ad, cap, ms, rfl, hc1, hcm, hr1⟩ := argv_mvs a1
  obtain ⟨ad2, cap2, ts, rfl, hc2, hcm2, hr2⟩ := argv_bs a2
  have hcm3 : ts.length ≤ 9223372036854775807 := by unfold maxLen at hcm2; omega
  have hs := Sat.start w
  refine Ret.enter (n := 102) (args := [.slice ad ms.length cap, .slice ad2 ts.length cap2]) Tryd.func6 rfl rfl ?_
  refine C.keep [(0, _), (1, _)] ⟨rfl, rfl, trivial⟩ ?_
  refine C.seq ?_
  refine C.region ?_
  refine R.ev rfl (E.assign rfl) ?_
  refine R.done ?_
  refine X.keep [(0, _), (1, _)] ⟨rfl, rfl, trivial⟩ ?_
  refine X.next ?_
  refine C.seq ?_
  refine C.seq ?_
  refine C.region ?_
  refine R.call ⟨_, _, Tryd.func11, rfl, by kernel_rfl⟩ rfl rfl (known_any hs) ?_
  rintro _ w1 ⟨rfl, hs⟩
  refine R.ev rfl (E.notT rfl) ?_
  refine R.done ?_
  refine X.keep [(0, _), (1, _), (18, _)] ⟨rfl, rfl, rfl, trivial⟩ ?_
  refine X.next ?_
  refine C.cfalse rfl ?_
  refine C.skip ?_
  refine X.next ?_
  refine C.seq ?_
  refine C.region ?_
  refine R.ev rfl (E.assign rfl) ?_
  refine R.done ?_
  refine X.keep [(0, _), (1, _), (5, _)] ⟨rfl, rfl, rfl, trivial⟩ ?_
  refine X.next ?_
  refine C.seq ?_
  refine C.seq ?_
  refine C.region ?_
  refine R.ev rfl (E.assign rfl) ?_
  refine R.done ?_
  refine X.keep [(0, _), (1, _), (5, _), (6, _)] ⟨rfl, rfl, rfl, rfl, trivial⟩ ?_
  refine X.next ?_
  refine C.block ?_
  refine C.loop (T := Nat × Value × Hl) [(0, _), (1, _)] (fun (k, v, _) => [(5, v), (6, .int .i64 (k : Nat))]) (fun (k, v, F1) w' => k ≤ ms.length ∧ k ≤ 16 ∧ RowL 41 encMv 7 v (ordL ms k) F1 ∧ Sat (Kn.of w) w' [F1]) (fun (k, _) => 16 - k) ((0, .slice none 0 0, [])) ⟨rfl, rfl, rfl, rfl, trivial⟩ ⟨Nat.zero_le _, Nat.zero_le _, RowL.nil _ _ _, hs.nil⟩ ?_
  rintro ⟨k, v5, F5⟩ w2 ⟨hk, hk16, r5, hs⟩
  have hol := ordL_len hk
  refine C.keep [(0, _), (1, _), (5, _), (6, _)] ⟨rfl, rfl, rfl, rfl, trivial⟩ ?_
  refine C.seq ?_
  refine C.seq ?_
  refine C.region ?_
  refine R.ev rfl (E.move rfl) ?_
  refine R.ev rfl (E.move rfl) ?_
  refine R.ev rfl (E.lenSl rfl Tryd.underlying22) ?_
  refine R.ev rfl (E.lss rfl rfl) ?_
  refine R.ev rfl (E.move rfl) ?_
  refine R.split 23 rfl (fun h23 => ?_) (fun h23 => ?_)
  · refine R.gyes rfl rfl ?_
    refine R.ev rfl (E.move rfl) ?_
    refine R.gyes rfl rfl ?_
    refine R.ev rfl (E.lss rfl rfl) ?_
    refine R.ev rfl (E.pickT rfl rfl) ?_
    refine R.done ?_
    refine X.keep [(0, _), (1, _), (5, _), (6, _), (26, _)] ⟨rfl, rfl, rfl, rfl, rfl, trivial⟩ ?_
    refine X.next ?_
    refine C.cbool rfl (fun h26 => ?_) (fun h26 => ?_)
    · refine C.skip ?_
      refine X.next ?_
      refine C.seq ?_
      refine C.block ?_
      refine C.seq ?_
      refine C.region ?_
      have hk2 : k < 16 := by have := of_decide_eq_true h26; omega
      have hkl : k < ms.length := by have := of_decide_eq_true h23; omega
      obtain ⟨y, bk_y, of_y, hy, my, ly, rfl, Ay⟩ := (hs.to (Hs := [])).el (i := k) (ad := ad) (n := ms.length) (c := cap) hkl
      have ay := Ay _ hs.to
      refine R.ev rfl (E.move rfl) ?_
      refine R.ev rfl (E.move rfl) ?_
      refine R.ev rfl (E.indexAddr (i := k) rfl rfl Tryd.underlying22 Tryd.sz41 rfl hkl) ?_
      refine R.ev rfl (E.loadRowC rfl Tryd.underlying41 rfl Tryd.sz41 (by first | exact ⟨hs.ldA, by first | rfl | assumption | exact encV_len _ | exact Enc.len _ | exact len_ub (by assumption)⟩ | exact ⟨hs.ldP rfl, by first | rfl | assumption | exact encV_len _ | exact Enc.len _ | exact len_ub (by assumption)⟩ | exact ⟨hs.ldM rfl rfl, by first | rfl | assumption | exact encV_len _ | exact Enc.len _ | exact len_ub (by assumption)⟩ | exact ⟨hs.ldM (by assumption) (by first | rfl | assumption), by first | rfl | assumption | exact encV_len _ | exact Enc.len _ | exact len_ub (by assumption)⟩ | exact ⟨by assumption, by first | rfl | assumption | exact encV_len _ | exact Enc.len _ | exact len_ub (by assumption)⟩ | exact hs.ldp | exact At.partC (by assumption))) ?_
      refine R.sallocA hs Tryd.zr41 rfl ?_
      intro b7 w7 hs
      first | refine R.cstoreAll hs rfl rfl Tryd.sz41 (by first | rfl | assumption | exact encV_len _ | exact Enc.len _ | exact len_ub (by assumption) | simp [*]) (by first | rfl | assumption | exact encV_len _ | exact Enc.len _ | exact len_ub (by assumption) | simp [*]) (by first | assumption | exact OneL.all | exact Enc.one _ | exact ub_all _ | (repeat' (first | refine List.forall_mem_cons.2 ⟨?_, ?_⟩ | exact List.forall_mem_nil _ | rfl | exact OneC.one | exact KRow.oneC' (by assumption)))) ?_ | refine R.cstore hs rfl rfl Tryd.sz41 (by first | rfl | assumption | exact encV_len _ | exact Enc.len _ | exact len_ub (by assumption) | simp [*]) (by simp [*]) (by first | assumption | exact OneL.all | exact Enc.one _ | exact ub_all _ | (repeat' (first | refine List.forall_mem_cons.2 ⟨?_, ?_⟩ | exact List.forall_mem_nil _ | rfl | exact OneC.one | exact KRow.oneC' (by assumption)))) ?_
      intro w7_5 hs
      try simp only [List.set_cons_zero, List.set_cons_succ] at hs
      refine R.done ?_
      refine X.keep [(0, _), (1, _), (5, _), (6, _), (7, _)] ⟨rfl, rfl, rfl, rfl, rfl, trivial⟩ ?_
      refine X.next ?_
      refine C.seq ?_
      refine C.region ?_
      refine R.ev rfl (E.move rfl) ?_
      refine R.ev rfl ((E.conv rfl Tryd.underlying3 Tryd.underlying5).as (u := ub (UInt8.ofNat k)) (by rw [IntKind.wrap_u8]; simp only [ub, Value.int.injEq, true_and]; rw [UInt8.toNat_ofNat']; omega)) ?_
      first | refine R.ev rfl (E.fieldAddr0 5 rfl Tryd.underlying41 rfl Tryd.sz5 rfl) ?_ | refine R.ev rfl (E.fieldAddrN 5 rfl Tryd.underlying41 rfl Tryd.sz5 rfl) ?_
      refine R.cstore1 (b := b7) hs rfl rfl Tryd.sz5 (by rw [Enc.len (enc := encMv)]; decide) rfl ?_
      intro w83 hs
      have hs := Sat.seen (row b7 41 (encMv (reid y k))) rfl hs
      refine R.done ?_
      refine X.keep [(0, _), (1, _), (5, _), (6, _), (7, _)] ⟨rfl, rfl, rfl, rfl, rfl, trivial⟩ ?_
      refine X.next ?_
      refine C.region ?_
      refine R.ev rfl (E.move rfl) ?_
      refine R.ev rfl (E.loadRowC rfl Tryd.underlying41 rfl Tryd.sz41 (by first | exact ⟨hs.ldA, by first | rfl | assumption | exact encV_len _ | exact Enc.len _ | exact len_ub (by assumption)⟩ | exact ⟨hs.ldP rfl, by first | rfl | assumption | exact encV_len _ | exact Enc.len _ | exact len_ub (by assumption)⟩ | exact ⟨hs.ldM rfl rfl, by first | rfl | assumption | exact encV_len _ | exact Enc.len _ | exact len_ub (by assumption)⟩ | exact ⟨hs.ldM (by assumption) (by first | rfl | assumption), by first | rfl | assumption | exact encV_len _ | exact Enc.len _ | exact len_ub (by assumption)⟩ | exact ⟨by assumption, by first | rfl | assumption | exact encV_len _ | exact Enc.len _ | exact len_ub (by assumption)⟩ | exact hs.ldp | exact At.partC (by assumption))) ?_
      refine R.buildSliceA rfl Tryd.underlying22 Tryd.sz41 Tryd.zr41 rfl (by first | rfl | assumption | exact encV_len _ | exact Enc.len _ | simp [*]) (by decide) (by decide) ?_
      intro b38 w38 n38
      have hs := hs.new n38
      refine R.capp1 (reid y k) hs rfl rfl Tryd.underlying22 Tryd.by41 (by rfl) rfl (by first | exact hs.ldA | exact hs.ldP rfl | exact by assumption) (by decide) (by first | omega | (simp only [List.length_append, List.length_cons, List.length_nil] at *; omega)) (by first | omega | (simp only [List.length_append, List.length_cons, List.length_nil] at *; omega)) ?_
      intro v39 w39 F39 r39 hs
      refine R.ev rfl (E.assign rfl) ?_
      refine R.done ?_
      refine X.keep [(0, _), (1, _), (5, _), (6, _)] ⟨rfl, rfl, rfl, rfl, trivial⟩ ?_
      refine X.blockNormal ?_
      refine X.next ?_
      refine C.region ?_
      refine R.ev rfl (E.move rfl) ?_
      refine R.ev rfl (E.add rfl rfl (by omega) (by omega)) ?_
      refine R.ev rfl (E.assign rfl) ?_
      refine R.done ?_
      refine X.keep [(0, _), (1, _), (5, _), (6, _)] ⟨rfl, rfl, rfl, rfl, trivial⟩ ?_
      exact X.again (k + 1, v39, F39) ⟨rfl, rfl, rfl, rfl, trivial⟩ ⟨by omega, by omega, by rw [ordL_step hy]; exact r39, hs.to⟩ (by show _ - _ < _ - _; omega)
    · refine C.exit ?_
      refine X.thenExit ?_
      refine X.loopExit ?_
      refine X.blockExit ?_
      refine X.next ?_
      refine C.seq ?_
      refine C.region ?_
      obtain ⟨ad5, cap5, rfl, _, _, had5⟩ := r5.val
      have hinj := ordL_inj hk hk16
      generalize ordL ms k = l at r5 hol had5 hinj
      have hlt : l.take 16 = l := List.take_of_length_le (by omega)
      refine R.ev rfl (E.move rfl) ?_
      refine R.call ⟨_, _, Tryd.func12, rfl, by kernel_rfl⟩ rfl rfl (build_any (ms := l) (n := 16) (by decide) hs) ?_
      rintro _ w10 ⟨p, K2, v9, MK, MR, F, rfl, hk2, hr9, hI, hw, hs⟩
      rw [hlt] at hr9 hI
      have hbl := bld_len l
      have o9 : OneC v9 := ⟨KRow.oneC' hr9⟩
      have hr2b : KRow encB 1 K2 (.slice ad2 ts.length cap2) ts := KRow.mono (k := hk2) (h := hr2)
      refine R.ev rfl (E.move rfl) ?_
      refine R.ev rfl (E.extract rfl rfl) ?_
      refine R.ev rfl (E.extract rfl rfl) ?_
      refine R.ev rfl (E.extract rfl rfl) ?_
      refine R.ev rfl (E.assign rfl) ?_
      refine R.ev rfl (E.assign rfl) ?_
      refine R.ev rfl (E.assign rfl) ?_
      refine R.done ?_
      refine X.keep [(1, _), (5, _), (8, _), (9, _)] ⟨rfl, rfl, rfl, rfl, trivial⟩ ?_
      refine X.next ?_
      refine C.seq ?_
      refine C.seq ?_
      refine C.region ?_
      refine R.ev rfl (E.assign rfl) ?_
      refine R.done ?_
      refine X.keep [(1, _), (5, _), (8, _), (9, _), (11, _)] ⟨rfl, rfl, rfl, rfl, rfl, trivial⟩ ?_
      refine X.next ?_
      refine C.block ?_
      refine C.loop (T := Nat × List Mv × Hl) [(1, _), (5, _), (8, _), (9, _)] (fun (i, _, _) => [(11, .int .i64 (i : Nat))]) (fun (i, l2, F2) w' => i ≤ ts.length ∧ l2.Perm l ∧ RowL 41 encMv 7 (.slice ad5 l.length cap5) l2 F2 ∧ Sat K2 w' [F2, F]) (fun (i, _) => ts.length - i) ((0, l, F5)) ⟨rfl, rfl, rfl, rfl, rfl, trivial⟩ ⟨Nat.zero_le _, List.Perm.refl _, r5, hs.to⟩ ?_
      rintro ⟨i, l2, F2⟩ w11 ⟨hi, hp2, r2, hs⟩
      have hl2 := hp2.length_eq
      refine C.keep [(1, _), (5, _), (8, _), (9, _), (11, _)] ⟨rfl, rfl, rfl, rfl, rfl, trivial⟩ ?_
      refine C.seq ?_
      refine C.seq ?_
      refine C.region ?_
      refine R.ev rfl (E.move rfl) ?_
      refine R.ev rfl (E.move rfl) ?_
      refine R.ev rfl (E.lenSl rfl Tryd.underlying65) ?_
      refine R.ev rfl (E.lss rfl rfl) ?_
      refine R.ev rfl (E.move rfl) ?_
      refine R.split 50 rfl (fun h50 => ?_) (fun h50 => ?_)
      · refine R.gyes rfl rfl ?_
        refine R.ev rfl (E.move rfl) ?_
        refine R.gyes rfl rfl ?_
        refine R.ev rfl (E.lenSl rfl Tryd.underlying22) ?_
        refine R.gyes rfl rfl ?_
        refine R.ev rfl (E.gtr rfl rfl) ?_
        refine R.ev rfl (E.pickT rfl rfl) ?_
        refine R.done ?_
        refine X.keep [(1, _), (5, _), (8, _), (9, _), (11, _), (54, _)] ⟨rfl, rfl, rfl, rfl, rfl, rfl, trivial⟩ ?_
        refine X.next ?_
        refine C.cbool rfl (fun h54 => ?_) (fun h54 => ?_)
        · refine C.skip ?_
          refine X.next ?_
          refine C.seq ?_
          refine C.block ?_
          refine C.seq ?_
          refine C.drawn (SatS hs) ([7], [0, 1, 2, 3, 4, 5, 6, 8, 9, 10, 11, 12, 13]) (by kernel_rfl) ?_
          have hs := hs.drew
          have hi2 : i < ts.length := by have := of_decide_eq_true h50; omega
          have hln : 1 < l.length := by have := of_decide_eq_true h54; omega
          obtain ⟨b5, rfl⟩ := had5 (by intro e; rw [e] at hln; simp at hln)
          obtain ⟨t, bk_t, of_t, ht, mt, lt, rfl, At_⟩ := (hs.to (Hs := [])).el (i := i) (ad := ad2) (n := ts.length) (c := cap2) hi2
          have hia : i % l.length < l.length := Nat.mod_lt _ (by omega)
          have hta : t.toNat % l.length < l.length := Nat.mod_lt _ (by omega)
          obtain ⟨x, hx⟩ : ∃ x, l2[i % l.length]? = some x := ⟨_, List.getElem?_eq_getElem (by omega)⟩
          obtain ⟨y, hy⟩ : ∃ y, l2[t.toNat % l.length]? = some y := ⟨_, List.getElem?_eq_getElem (by omega)⟩
          have Ax := Sat.elAt (b := b5) (off := 0) (n := l.length) cap5 hs hx
          have Ay := Sat.elAt (b := b5) (off := 0) (n := l.length) cap5 hs hy
          refine D.evP 0 rfl (by kernel_rfl) rfl (fun _ => hs.to) (fun _ => E.move rfl) ?_
          refine D.evP 1 rfl (by kernel_rfl) rfl (fun _ => hs.to) (fun _ => E.move rfl) ?_
          refine D.evP 2 rfl (by kernel_rfl) rfl (fun _ => hs.to) (fun _ => E.lenSl rfl Tryd.underlying22) ?_
          refine D.evP 3 rfl (by kernel_rfl) rfl (fun _ => hs.to) (fun _ => (E.rem rfl rfl (by omega) (by omega)).isI (c := ((i % l.length : Nat) : Int)) (Int.natCast_emod _ _).symm) ?_
          refine D.evP 4 rfl (by kernel_rfl) rfl (fun _ => hs.to) (fun _ => E.move rfl) ?_
          refine D.evP 5 rfl (by kernel_rfl) rfl (fun _ => hs.to) (fun _ => E.move rfl) ?_
          refine D.evP 6 rfl (by kernel_rfl) rfl (fun _ => hs.to) (fun _ => E.indexAddr (i := i) rfl rfl Tryd.underlying65 Tryd.sz5 rfl hi2) ?_
          refine D.evP 9 rfl (by kernel_rfl) rfl (fun _ => hs.to) (fun _ => E.move rfl) ?_
          refine D.evP 10 rfl (by kernel_rfl) rfl (fun _ => hs.to) (fun _ => E.lenSl rfl Tryd.underlying22) ?_
          refine D.evP 12 rfl (by kernel_rfl) rfl (fun _ => hs.to) (fun _ => E.assign rfl) ?_
          refine D.ev 7 rfl (by kernel_rfl) rfl hs.to (fun _ hS => E.load1 rfl Tryd.underlying5 rfl (At_ _ hS.to 0 _ rfl)) ?_
          refine D.evP 8 rfl (by kernel_rfl) rfl (fun _ => hs.to) (fun _ => (E.conv rfl Tryd.underlying5 Tryd.underlying3).isI (c := (t.toNat : Int)) (conv_u8 t)) ?_
          refine D.evP 11 rfl (by kernel_rfl) rfl (fun _ => hs.to) (fun _ => (E.rem rfl rfl (by omega) (by omega)).isI (c := ((t.toNat % l.length : Nat) : Int)) (Int.natCast_emod _ _).symm) ?_
          refine D.evP 13 rfl (by kernel_rfl) rfl (fun _ => hs.to) (fun _ => E.assign rfl) ?_
          refine D.done rfl (by kernel_rfl) ?_
          refine X.keep [(1, _), (5, _), (8, _), (9, _), (11, _), (12, _), (13, _)] ⟨rfl, rfl, rfl, rfl, rfl, rfl, rfl, trivial⟩ ?_
          refine X.next ?_
          refine C.drawn (SatS hs) ([7, 11], [0, 1, 2, 3, 4, 5, 6, 8, 9, 10, 12, 14]) (by kernel_rfl) ?_
          have hs := hs.drew
          refine D.evP 0 rfl (by kernel_rfl) rfl (fun _ => hs.to) (fun _ => E.move rfl) ?_
          refine D.evP 1 rfl (by kernel_rfl) rfl (fun _ => hs.to) (fun _ => E.move rfl) ?_
          refine D.evP 2 rfl (by kernel_rfl) rfl (fun _ => hs.to) (fun _ => E.move rfl) ?_
          refine D.evP 3 rfl (by kernel_rfl) rfl (fun _ => hs.to) (fun _ => E.move rfl) ?_
          refine D.evP 4 rfl (by kernel_rfl) rfl (fun _ => hs.to) (fun _ => E.move rfl) ?_
          refine D.evP 5 rfl (by kernel_rfl) rfl (fun _ => hs.to) (fun _ => E.move rfl) ?_
          refine D.evP 6 rfl (by kernel_rfl) rfl (fun _ => hs.to) (fun _ => E.indexAddr (i := t.toNat % l.length) rfl rfl Tryd.underlying22 Tryd.sz41 rfl hta) ?_
          refine D.evP 8 rfl (by kernel_rfl) rfl (fun _ => hs.to) (fun _ => E.move rfl) ?_
          refine D.evP 9 rfl (by kernel_rfl) rfl (fun _ => hs.to) (fun _ => E.move rfl) ?_
          refine D.evP 10 rfl (by kernel_rfl) rfl (fun _ => hs.to) (fun _ => E.indexAddr (i := i % l.length) rfl rfl Tryd.underlying22 Tryd.sz41 rfl hia) ?_
          refine D.ev 7 rfl (by kernel_rfl) rfl hs.to (fun _ hS => E.loadRowC rfl Tryd.underlying41 rfl Tryd.sz41 ⟨Ay _ hS, Enc.len _⟩) ?_
          refine D.ev 11 rfl (by kernel_rfl) rfl hs.to (fun _ hS => E.loadRowC rfl Tryd.underlying41 rfl Tryd.sz41 ⟨Ax _ hS, Enc.len _⟩) ?_
          refine D.evP 12 rfl (by kernel_rfl) rfl (fun _ => hs.to) (fun _ => E.indexAddr (i := i % l.length) rfl rfl Tryd.underlying22 Tryd.sz41 rfl hia) ?_
          refine D.act 13 rfl (by kernel_rfl) ?_
          refine R.ssetE (i % l.length) y hs r2 rfl rfl Tryd.sz41 hx (Enc.len _) (by omega) (Enc.one _) ?_
          intro w13 F13 r13 hs
          have hy2 : ∃ z, (l2.set (i % l.length) y)[t.toNat % l.length]? = some z := ⟨_, List.getElem?_eq_getElem (by rw [List.length_set]; omega)⟩
          obtain ⟨z, hz⟩ := hy2
          refine D.backT (by kernel_rfl) ?_
          refine D.evP 14 rfl (by kernel_rfl) rfl (np (by kernel_rfl)) (fun _ => E.indexAddr (i := t.toNat % l.length) rfl rfl Tryd.underlying22 Tryd.sz41 rfl hta) ?_
          refine D.act 15 rfl (by kernel_rfl) ?_
          refine R.ssetE (t.toNat % l.length) x hs r13 rfl rfl Tryd.sz41 hz (Enc.len _) (by omega) (Enc.one _) ?_
          intro w15 F15 r15 hs
          refine D.backT (by kernel_rfl) ?_
          refine D.done rfl (by kernel_rfl) ?_
          refine X.keep [(1, _), (5, _), (8, _), (9, _), (11, _)] ⟨rfl, rfl, rfl, rfl, rfl, trivial⟩ ?_
          refine X.blockNormal ?_
          refine X.next ?_
          refine C.region ?_
          refine R.ev rfl (E.move rfl) ?_
          refine R.ev rfl (E.add rfl rfl (by omega) (by omega)) ?_
          refine R.ev rfl (E.assign rfl) ?_
          refine R.done ?_
          refine X.keep [(1, _), (5, _), (8, _), (9, _), (11, _)] ⟨rfl, rfl, rfl, rfl, rfl, trivial⟩ ?_
          exact X.again (i + 1, (l2.set (i % l.length) y).set (t.toNat % l.length) x, F15) ⟨rfl, rfl, rfl, rfl, rfl, trivial⟩ ⟨by omega, (swap_perm hx hy).trans hp2, r15, hs⟩ (by show _ - _ < _ - _; omega)
        · refine C.exit ?_
          refine X.thenExit ?_
          refine X.loopExit ?_
          refine X.blockExit ?_
          refine X.next ?_
          refine C.seq ?_
          refine C.region ?_
          have hlt2 : l2.take 16 = l2 := List.take_of_length_le (by omega)
          refine R.ev rfl (E.move rfl) ?_
          refine R.call ⟨_, _, Tryd.func12, rfl, by kernel_rfl⟩ rfl rfl (build_any (ms := l2) (n := 16) (by decide) hs) ?_
          rintro _ w16 ⟨q, K3, v15, MK3, MR3, F3, rfl, hk3, hr15, hI3, hw3, hs⟩
          rw [hlt2] at hI3
          have hbl2 := bld_len l2
          have hmem := bld_perm hp2 hinj
          have hr9 : KRow encO 84 K3 v9 (bld l) := KRow.mono (k := hk3) (h := hr9)
          refine R.ev rfl (E.move rfl) ?_
          refine R.ev rfl (E.extract rfl rfl) ?_
          refine R.ev rfl (E.extract rfl rfl) ?_
          refine R.ev rfl (E.extract rfl rfl) ?_
          refine R.ev rfl (E.assign rfl) ?_
          refine R.ev rfl (E.assign rfl) ?_
          refine R.ev rfl (E.assign rfl) ?_
          refine R.done ?_
          refine X.keep [(8, _), (9, _), (14, _)] ⟨rfl, rfl, rfl, trivial⟩ ?_
          refine X.next ?_
          refine C.seq ?_
          refine C.region ?_
          refine R.ev rfl (E.move rfl) ?_
          refine R.ev rfl (E.move rfl) ?_
          refine R.call ⟨_, _, Tryd.func25, rfl, by kernel_rfl⟩ rfl rfl (equal_any hI hI3 (by omega) (by omega) hs) ?_
          rintro _ w172 ⟨rfl, hs⟩
          rw [(eqKr_same hI.ok hI3.ok).2 fun r => (hmem r).symm]
          refine R.ev rfl (E.move rfl) ?_
          refine R.gyes rfl rfl ?_
          refine R.ev rfl (E.move rfl) ?_
          refine R.gyes rfl rfl ?_
          refine R.ev rfl (E.move rfl) ?_
          refine R.gyes rfl rfl ?_
          refine R.call ⟨_, _, Tryd.func25, rfl, by kernel_rfl⟩ rfl rfl (equal_any hI3 hI (by omega) (by omega) hs) ?_
          rintro _ w176 ⟨rfl, hs⟩
          rw [(eqKr_same hI3.ok hI.ok).2 hmem]
          refine R.ev rfl (E.pickT rfl rfl) ?_
          refine R.ev rfl (E.move rfl) ?_
          refine R.gyes rfl rfl ?_
          refine R.ev rfl (E.move rfl) ?_
          refine R.gyes rfl rfl ?_
          refine R.ev rfl (E.move rfl) ?_
          refine R.gyes rfl rfl ?_
          refine R.call ⟨_, _, Tryd.func26, rfl, by kernel_rfl⟩ rfl rfl (chains_any hI3 hmem (by omega) (by omega) hs) ?_
          rintro _ w1711 ⟨rfl, hs⟩
          refine R.ev rfl (E.pickT rfl rfl) ?_
          refine R.ev rfl (E.assign rfl) ?_
          refine R.done ?_
          refine X.keep [(4, _)] ⟨rfl, trivial⟩ ?_
          refine X.next ?_
          refine C.ret ?_
          refine X.ret1 rfl rfl ?_
          exact ⟨rfl, (hs.less (hk2.trans hk3).le).mod⟩
      · refine R.gskip rfl rfl rfl ?_
        refine R.gskip rfl rfl rfl ?_
        refine R.gskip rfl rfl rfl ?_
        refine R.ev rfl (E.pickF rfl rfl) ?_
        refine R.done ?_
        refine X.keep [(1, _), (5, _), (8, _), (9, _), (11, _), (54, _)] ⟨rfl, rfl, rfl, rfl, rfl, rfl, trivial⟩ ?_
        refine X.next ?_
        refine C.cfalse rfl ?_
        refine C.exit ?_
        refine X.thenExit ?_
        refine X.loopExit ?_
        refine X.blockExit ?_
        refine X.next ?_
        refine C.seq ?_
        refine C.region ?_
        have hlt2 : l2.take 16 = l2 := List.take_of_length_le (by omega)
        refine R.ev rfl (E.move rfl) ?_
        refine R.call ⟨_, _, Tryd.func12, rfl, by kernel_rfl⟩ rfl rfl (build_any (ms := l2) (n := 16) (by decide) hs) ?_
        rintro _ w16 ⟨q, K3, v15, MK3, MR3, F3, rfl, hk3, hr15, hI3, hw3, hs⟩
        rw [hlt2] at hI3
        have hbl2 := bld_len l2
        have hmem := bld_perm hp2 hinj
        have hr9 : KRow encO 84 K3 v9 (bld l) := KRow.mono (k := hk3) (h := hr9)
        refine R.ev rfl (E.move rfl) ?_
        refine R.ev rfl (E.extract rfl rfl) ?_
        refine R.ev rfl (E.extract rfl rfl) ?_
        refine R.ev rfl (E.extract rfl rfl) ?_
        refine R.ev rfl (E.assign rfl) ?_
        refine R.ev rfl (E.assign rfl) ?_
        refine R.ev rfl (E.assign rfl) ?_
        refine R.done ?_
        refine X.keep [(8, _), (9, _), (14, _)] ⟨rfl, rfl, rfl, trivial⟩ ?_
        refine X.next ?_
        refine C.seq ?_
        refine C.region ?_
        refine R.ev rfl (E.move rfl) ?_
        refine R.ev rfl (E.move rfl) ?_
        refine R.call ⟨_, _, Tryd.func25, rfl, by kernel_rfl⟩ rfl rfl (equal_any hI hI3 (by omega) (by omega) hs) ?_
        rintro _ w172 ⟨rfl, hs⟩
        rw [(eqKr_same hI.ok hI3.ok).2 fun r => (hmem r).symm]
        refine R.ev rfl (E.move rfl) ?_
        refine R.gyes rfl rfl ?_
        refine R.ev rfl (E.move rfl) ?_
        refine R.gyes rfl rfl ?_
        refine R.ev rfl (E.move rfl) ?_
        refine R.gyes rfl rfl ?_
        refine R.call ⟨_, _, Tryd.func25, rfl, by kernel_rfl⟩ rfl rfl (equal_any hI3 hI (by omega) (by omega) hs) ?_
        rintro _ w176 ⟨rfl, hs⟩
        rw [(eqKr_same hI3.ok hI.ok).2 hmem]
        refine R.ev rfl (E.pickT rfl rfl) ?_
        refine R.ev rfl (E.move rfl) ?_
        refine R.gyes rfl rfl ?_
        refine R.ev rfl (E.move rfl) ?_
        refine R.gyes rfl rfl ?_
        refine R.ev rfl (E.move rfl) ?_
        refine R.gyes rfl rfl ?_
        refine R.call ⟨_, _, Tryd.func26, rfl, by kernel_rfl⟩ rfl rfl (chains_any hI3 hmem (by omega) (by omega) hs) ?_
        rintro _ w1711 ⟨rfl, hs⟩
        refine R.ev rfl (E.pickT rfl rfl) ?_
        refine R.ev rfl (E.assign rfl) ?_
        refine R.done ?_
        refine X.keep [(4, _)] ⟨rfl, trivial⟩ ?_
        refine X.next ?_
        refine C.ret ?_
        refine X.ret1 rfl rfl ?_
        exact ⟨rfl, (hs.less (hk2.trans hk3).le).mod⟩
  · refine R.gskip rfl rfl rfl ?_
    refine R.gskip rfl rfl rfl ?_
    refine R.ev rfl (E.pickF rfl rfl) ?_
    refine R.done ?_
    refine X.keep [(0, _), (1, _), (5, _), (6, _), (26, _)] ⟨rfl, rfl, rfl, rfl, rfl, trivial⟩ ?_
    refine X.next ?_
    refine C.cfalse rfl ?_
    refine C.exit ?_
    refine X.thenExit ?_
    refine X.loopExit ?_
    refine X.blockExit ?_
    refine X.next ?_
    refine C.seq ?_
    refine C.region ?_
    obtain ⟨ad5, cap5, rfl, _, _, had5⟩ := r5.val
    have hinj := ordL_inj hk hk16
    generalize ordL ms k = l at r5 hol had5 hinj
    have hlt : l.take 16 = l := List.take_of_length_le (by omega)
    refine R.ev rfl (E.move rfl) ?_
    refine R.call ⟨_, _, Tryd.func12, rfl, by kernel_rfl⟩ rfl rfl (build_any (ms := l) (n := 16) (by decide) hs) ?_
    rintro _ w10 ⟨p, K2, v9, MK, MR, F, rfl, hk2, hr9, hI, hw, hs⟩
    rw [hlt] at hr9 hI
    have hbl := bld_len l
    have o9 : OneC v9 := ⟨KRow.oneC' hr9⟩
    have hr2b : KRow encB 1 K2 (.slice ad2 ts.length cap2) ts := KRow.mono (k := hk2) (h := hr2)
    refine R.ev rfl (E.move rfl) ?_
    refine R.ev rfl (E.extract rfl rfl) ?_
    refine R.ev rfl (E.extract rfl rfl) ?_
    refine R.ev rfl (E.extract rfl rfl) ?_
    refine R.ev rfl (E.assign rfl) ?_
    refine R.ev rfl (E.assign rfl) ?_
    refine R.ev rfl (E.assign rfl) ?_
    refine R.done ?_
    refine X.keep [(1, _), (5, _), (8, _), (9, _)] ⟨rfl, rfl, rfl, rfl, trivial⟩ ?_
    refine X.next ?_
    refine C.seq ?_
    refine C.seq ?_
    refine C.region ?_
    refine R.ev rfl (E.assign rfl) ?_
    refine R.done ?_
    refine X.keep [(1, _), (5, _), (8, _), (9, _), (11, _)] ⟨rfl, rfl, rfl, rfl, rfl, trivial⟩ ?_
    refine X.next ?_
    refine C.block ?_
    refine C.loop (T := Nat × List Mv × Hl) [(1, _), (5, _), (8, _), (9, _)] (fun (i, _, _) => [(11, .int .i64 (i : Nat))]) (fun (i, l2, F2) w' => i ≤ ts.length ∧ l2.Perm l ∧ RowL 41 encMv 7 (.slice ad5 l.length cap5) l2 F2 ∧ Sat K2 w' [F2, F]) (fun (i, _) => ts.length - i) ((0, l, F5)) ⟨rfl, rfl, rfl, rfl, rfl, trivial⟩ ⟨Nat.zero_le _, List.Perm.refl _, r5, hs.to⟩ ?_
    rintro ⟨i, l2, F2⟩ w11 ⟨hi, hp2, r2, hs⟩
    have hl2 := hp2.length_eq
    refine C.keep [(1, _), (5, _), (8, _), (9, _), (11, _)] ⟨rfl, rfl, rfl, rfl, rfl, trivial⟩ ?_
    refine C.seq ?_
    refine C.seq ?_
    refine C.region ?_
    refine R.ev rfl (E.move rfl) ?_
    refine R.ev rfl (E.move rfl) ?_
    refine R.ev rfl (E.lenSl rfl Tryd.underlying65) ?_
    refine R.ev rfl (E.lss rfl rfl) ?_
    refine R.ev rfl (E.move rfl) ?_
    refine R.split 50 rfl (fun h50 => ?_) (fun h50 => ?_)
    · refine R.gyes rfl rfl ?_
      refine R.ev rfl (E.move rfl) ?_
      refine R.gyes rfl rfl ?_
      refine R.ev rfl (E.lenSl rfl Tryd.underlying22) ?_
      refine R.gyes rfl rfl ?_
      refine R.ev rfl (E.gtr rfl rfl) ?_
      refine R.ev rfl (E.pickT rfl rfl) ?_
      refine R.done ?_
      refine X.keep [(1, _), (5, _), (8, _), (9, _), (11, _), (54, _)] ⟨rfl, rfl, rfl, rfl, rfl, rfl, trivial⟩ ?_
      refine X.next ?_
      refine C.cbool rfl (fun h54 => ?_) (fun h54 => ?_)
      · refine C.skip ?_
        refine X.next ?_
        refine C.seq ?_
        refine C.block ?_
        refine C.seq ?_
        refine C.drawn (SatS hs) ([7], [0, 1, 2, 3, 4, 5, 6, 8, 9, 10, 11, 12, 13]) (by kernel_rfl) ?_
        have hs := hs.drew
        have hi2 : i < ts.length := by have := of_decide_eq_true h50; omega
        have hln : 1 < l.length := by have := of_decide_eq_true h54; omega
        obtain ⟨b5, rfl⟩ := had5 (by intro e; rw [e] at hln; simp at hln)
        obtain ⟨t, bk_t, of_t, ht, mt, lt, rfl, At_⟩ := (hs.to (Hs := [])).el (i := i) (ad := ad2) (n := ts.length) (c := cap2) hi2
        have hia : i % l.length < l.length := Nat.mod_lt _ (by omega)
        have hta : t.toNat % l.length < l.length := Nat.mod_lt _ (by omega)
        obtain ⟨x, hx⟩ : ∃ x, l2[i % l.length]? = some x := ⟨_, List.getElem?_eq_getElem (by omega)⟩
        obtain ⟨y, hy⟩ : ∃ y, l2[t.toNat % l.length]? = some y := ⟨_, List.getElem?_eq_getElem (by omega)⟩
        have Ax := Sat.elAt (b := b5) (off := 0) (n := l.length) cap5 hs hx
        have Ay := Sat.elAt (b := b5) (off := 0) (n := l.length) cap5 hs hy
        refine D.evP 0 rfl (by kernel_rfl) rfl (fun _ => hs.to) (fun _ => E.move rfl) ?_
        refine D.evP 1 rfl (by kernel_rfl) rfl (fun _ => hs.to) (fun _ => E.move rfl) ?_
        refine D.evP 2 rfl (by kernel_rfl) rfl (fun _ => hs.to) (fun _ => E.lenSl rfl Tryd.underlying22) ?_
        refine D.evP 3 rfl (by kernel_rfl) rfl (fun _ => hs.to) (fun _ => (E.rem rfl rfl (by omega) (by omega)).isI (c := ((i % l.length : Nat) : Int)) (Int.natCast_emod _ _).symm) ?_
        refine D.evP 4 rfl (by kernel_rfl) rfl (fun _ => hs.to) (fun _ => E.move rfl) ?_
        refine D.evP 5 rfl (by kernel_rfl) rfl (fun _ => hs.to) (fun _ => E.move rfl) ?_
        refine D.evP 6 rfl (by kernel_rfl) rfl (fun _ => hs.to) (fun _ => E.indexAddr (i := i) rfl rfl Tryd.underlying65 Tryd.sz5 rfl hi2) ?_
        refine D.evP 9 rfl (by kernel_rfl) rfl (fun _ => hs.to) (fun _ => E.move rfl) ?_
        refine D.evP 10 rfl (by kernel_rfl) rfl (fun _ => hs.to) (fun _ => E.lenSl rfl Tryd.underlying22) ?_
        refine D.evP 12 rfl (by kernel_rfl) rfl (fun _ => hs.to) (fun _ => E.assign rfl) ?_
        refine D.ev 7 rfl (by kernel_rfl) rfl hs.to (fun _ hS => E.load1 rfl Tryd.underlying5 rfl (At_ _ hS.to 0 _ rfl)) ?_
        refine D.evP 8 rfl (by kernel_rfl) rfl (fun _ => hs.to) (fun _ => (E.conv rfl Tryd.underlying5 Tryd.underlying3).isI (c := (t.toNat : Int)) (conv_u8 t)) ?_
        refine D.evP 11 rfl (by kernel_rfl) rfl (fun _ => hs.to) (fun _ => (E.rem rfl rfl (by omega) (by omega)).isI (c := ((t.toNat % l.length : Nat) : Int)) (Int.natCast_emod _ _).symm) ?_
        refine D.evP 13 rfl (by kernel_rfl) rfl (fun _ => hs.to) (fun _ => E.assign rfl) ?_
        refine D.done rfl (by kernel_rfl) ?_
        refine X.keep [(1, _), (5, _), (8, _), (9, _), (11, _), (12, _), (13, _)] ⟨rfl, rfl, rfl, rfl, rfl, rfl, rfl, trivial⟩ ?_
        refine X.next ?_
        refine C.drawn (SatS hs) ([7, 11], [0, 1, 2, 3, 4, 5, 6, 8, 9, 10, 12, 14]) (by kernel_rfl) ?_
        have hs := hs.drew
        refine D.evP 0 rfl (by kernel_rfl) rfl (fun _ => hs.to) (fun _ => E.move rfl) ?_
        refine D.evP 1 rfl (by kernel_rfl) rfl (fun _ => hs.to) (fun _ => E.move rfl) ?_
        refine D.evP 2 rfl (by kernel_rfl) rfl (fun _ => hs.to) (fun _ => E.move rfl) ?_
        refine D.evP 3 rfl (by kernel_rfl) rfl (fun _ => hs.to) (fun _ => E.move rfl) ?_
        refine D.evP 4 rfl (by kernel_rfl) rfl (fun _ => hs.to) (fun _ => E.move rfl) ?_
        refine D.evP 5 rfl (by kernel_rfl) rfl (fun _ => hs.to) (fun _ => E.move rfl) ?_
        refine D.evP 6 rfl (by kernel_rfl) rfl (fun _ => hs.to) (fun _ => E.indexAddr (i := t.toNat % l.length) rfl rfl Tryd.underlying22 Tryd.sz41 rfl hta) ?_
        refine D.evP 8 rfl (by kernel_rfl) rfl (fun _ => hs.to) (fun _ => E.move rfl) ?_
        refine D.evP 9 rfl (by kernel_rfl) rfl (fun _ => hs.to) (fun _ => E.move rfl) ?_
        refine D.evP 10 rfl (by kernel_rfl) rfl (fun _ => hs.to) (fun _ => E.indexAddr (i := i % l.length) rfl rfl Tryd.underlying22 Tryd.sz41 rfl hia) ?_
        refine D.ev 7 rfl (by kernel_rfl) rfl hs.to (fun _ hS => E.loadRowC rfl Tryd.underlying41 rfl Tryd.sz41 ⟨Ay _ hS, Enc.len _⟩) ?_
        refine D.ev 11 rfl (by kernel_rfl) rfl hs.to (fun _ hS => E.loadRowC rfl Tryd.underlying41 rfl Tryd.sz41 ⟨Ax _ hS, Enc.len _⟩) ?_
        refine D.evP 12 rfl (by kernel_rfl) rfl (fun _ => hs.to) (fun _ => E.indexAddr (i := i % l.length) rfl rfl Tryd.underlying22 Tryd.sz41 rfl hia) ?_
        refine D.act 13 rfl (by kernel_rfl) ?_
        refine R.ssetE (i % l.length) y hs r2 rfl rfl Tryd.sz41 hx (Enc.len _) (by omega) (Enc.one _) ?_
        intro w13 F13 r13 hs
        have hy2 : ∃ z, (l2.set (i % l.length) y)[t.toNat % l.length]? = some z := ⟨_, List.getElem?_eq_getElem (by rw [List.length_set]; omega)⟩
        obtain ⟨z, hz⟩ := hy2
        refine D.backT (by kernel_rfl) ?_
        refine D.evP 14 rfl (by kernel_rfl) rfl (np (by kernel_rfl)) (fun _ => E.indexAddr (i := t.toNat % l.length) rfl rfl Tryd.underlying22 Tryd.sz41 rfl hta) ?_
        refine D.act 15 rfl (by kernel_rfl) ?_
        refine R.ssetE (t.toNat % l.length) x hs r13 rfl rfl Tryd.sz41 hz (Enc.len _) (by omega) (Enc.one _) ?_
        intro w15 F15 r15 hs
        refine D.backT (by kernel_rfl) ?_
        refine D.done rfl (by kernel_rfl) ?_
        refine X.keep [(1, _), (5, _), (8, _), (9, _), (11, _)] ⟨rfl, rfl, rfl, rfl, rfl, trivial⟩ ?_
        refine X.blockNormal ?_
        refine X.next ?_
        refine C.region ?_
        refine R.ev rfl (E.move rfl) ?_
        refine R.ev rfl (E.add rfl rfl (by omega) (by omega)) ?_
        refine R.ev rfl (E.assign rfl) ?_
        refine R.done ?_
        refine X.keep [(1, _), (5, _), (8, _), (9, _), (11, _)] ⟨rfl, rfl, rfl, rfl, rfl, trivial⟩ ?_
        exact X.again (i + 1, (l2.set (i % l.length) y).set (t.toNat % l.length) x, F15) ⟨rfl, rfl, rfl, rfl, rfl, trivial⟩ ⟨by omega, (swap_perm hx hy).trans hp2, r15, hs⟩ (by show _ - _ < _ - _; omega)
      · refine C.exit ?_
        refine X.thenExit ?_
        refine X.loopExit ?_
        refine X.blockExit ?_
        refine X.next ?_
        refine C.seq ?_
        refine C.region ?_
        have hlt2 : l2.take 16 = l2 := List.take_of_length_le (by omega)
        refine R.ev rfl (E.move rfl) ?_
        refine R.call ⟨_, _, Tryd.func12, rfl, by kernel_rfl⟩ rfl rfl (build_any (ms := l2) (n := 16) (by decide) hs) ?_
        rintro _ w16 ⟨q, K3, v15, MK3, MR3, F3, rfl, hk3, hr15, hI3, hw3, hs⟩
        rw [hlt2] at hI3
        have hbl2 := bld_len l2
        have hmem := bld_perm hp2 hinj
        have hr9 : KRow encO 84 K3 v9 (bld l) := KRow.mono (k := hk3) (h := hr9)
        refine R.ev rfl (E.move rfl) ?_
        refine R.ev rfl (E.extract rfl rfl) ?_
        refine R.ev rfl (E.extract rfl rfl) ?_
        refine R.ev rfl (E.extract rfl rfl) ?_
        refine R.ev rfl (E.assign rfl) ?_
        refine R.ev rfl (E.assign rfl) ?_
        refine R.ev rfl (E.assign rfl) ?_
        refine R.done ?_
        refine X.keep [(8, _), (9, _), (14, _)] ⟨rfl, rfl, rfl, trivial⟩ ?_
        refine X.next ?_
        refine C.seq ?_
        refine C.region ?_
        refine R.ev rfl (E.move rfl) ?_
        refine R.ev rfl (E.move rfl) ?_
        refine R.call ⟨_, _, Tryd.func25, rfl, by kernel_rfl⟩ rfl rfl (equal_any hI hI3 (by omega) (by omega) hs) ?_
        rintro _ w172 ⟨rfl, hs⟩
        rw [(eqKr_same hI.ok hI3.ok).2 fun r => (hmem r).symm]
        refine R.ev rfl (E.move rfl) ?_
        refine R.gyes rfl rfl ?_
        refine R.ev rfl (E.move rfl) ?_
        refine R.gyes rfl rfl ?_
        refine R.ev rfl (E.move rfl) ?_
        refine R.gyes rfl rfl ?_
        refine R.call ⟨_, _, Tryd.func25, rfl, by kernel_rfl⟩ rfl rfl (equal_any hI3 hI (by omega) (by omega) hs) ?_
        rintro _ w176 ⟨rfl, hs⟩
        rw [(eqKr_same hI3.ok hI.ok).2 hmem]
        refine R.ev rfl (E.pickT rfl rfl) ?_
        refine R.ev rfl (E.move rfl) ?_
        refine R.gyes rfl rfl ?_
        refine R.ev rfl (E.move rfl) ?_
        refine R.gyes rfl rfl ?_
        refine R.ev rfl (E.move rfl) ?_
        refine R.gyes rfl rfl ?_
        refine R.call ⟨_, _, Tryd.func26, rfl, by kernel_rfl⟩ rfl rfl (chains_any hI3 hmem (by omega) (by omega) hs) ?_
        rintro _ w1711 ⟨rfl, hs⟩
        refine R.ev rfl (E.pickT rfl rfl) ?_
        refine R.ev rfl (E.assign rfl) ?_
        refine R.done ?_
        refine X.keep [(4, _)] ⟨rfl, trivial⟩ ?_
        refine X.next ?_
        refine C.ret ?_
        refine X.ret1 rfl rfl ?_
        exact ⟨rfl, (hs.less (hk2.trans hk3).le).mod⟩
    · refine R.gskip rfl rfl rfl ?_
      refine R.gskip rfl rfl rfl ?_
      refine R.gskip rfl rfl rfl ?_
      refine R.ev rfl (E.pickF rfl rfl) ?_
      refine R.done ?_
      refine X.keep [(1, _), (5, _), (8, _), (9, _), (11, _), (54, _)] ⟨rfl, rfl, rfl, rfl, rfl, rfl, trivial⟩ ?_
      refine X.next ?_
      refine C.cfalse rfl ?_
      refine C.exit ?_
      refine X.thenExit ?_
      refine X.loopExit ?_
      refine X.blockExit ?_
      refine X.next ?_
      refine C.seq ?_
      refine C.region ?_
      have hlt2 : l2.take 16 = l2 := List.take_of_length_le (by omega)
      refine R.ev rfl (E.move rfl) ?_
      refine R.call ⟨_, _, Tryd.func12, rfl, by kernel_rfl⟩ rfl rfl (build_any (ms := l2) (n := 16) (by decide) hs) ?_
      rintro _ w16 ⟨q, K3, v15, MK3, MR3, F3, rfl, hk3, hr15, hI3, hw3, hs⟩
      rw [hlt2] at hI3
      have hbl2 := bld_len l2
      have hmem := bld_perm hp2 hinj
      have hr9 : KRow encO 84 K3 v9 (bld l) := KRow.mono (k := hk3) (h := hr9)
      refine R.ev rfl (E.move rfl) ?_
      refine R.ev rfl (E.extract rfl rfl) ?_
      refine R.ev rfl (E.extract rfl rfl) ?_
      refine R.ev rfl (E.extract rfl rfl) ?_
      refine R.ev rfl (E.assign rfl) ?_
      refine R.ev rfl (E.assign rfl) ?_
      refine R.ev rfl (E.assign rfl) ?_
      refine R.done ?_
      refine X.keep [(8, _), (9, _), (14, _)] ⟨rfl, rfl, rfl, trivial⟩ ?_
      refine X.next ?_
      refine C.seq ?_
      refine C.region ?_
      refine R.ev rfl (E.move rfl) ?_
      refine R.ev rfl (E.move rfl) ?_
      refine R.call ⟨_, _, Tryd.func25, rfl, by kernel_rfl⟩ rfl rfl (equal_any hI hI3 (by omega) (by omega) hs) ?_
      rintro _ w172 ⟨rfl, hs⟩
      rw [(eqKr_same hI.ok hI3.ok).2 fun r => (hmem r).symm]
      refine R.ev rfl (E.move rfl) ?_
      refine R.gyes rfl rfl ?_
      refine R.ev rfl (E.move rfl) ?_
      refine R.gyes rfl rfl ?_
      refine R.ev rfl (E.move rfl) ?_
      refine R.gyes rfl rfl ?_
      refine R.call ⟨_, _, Tryd.func25, rfl, by kernel_rfl⟩ rfl rfl (equal_any hI3 hI (by omega) (by omega) hs) ?_
      rintro _ w176 ⟨rfl, hs⟩
      rw [(eqKr_same hI3.ok hI.ok).2 hmem]
      refine R.ev rfl (E.pickT rfl rfl) ?_
      refine R.ev rfl (E.move rfl) ?_
      refine R.gyes rfl rfl ?_
      refine R.ev rfl (E.move rfl) ?_
      refine R.gyes rfl rfl ?_
      refine R.ev rfl (E.move rfl) ?_
      refine R.gyes rfl rfl ?_
      refine R.call ⟨_, _, Tryd.func26, rfl, by kernel_rfl⟩ rfl rfl (chains_any hI3 hmem (by omega) (by omega) hs) ?_
      rintro _ w1711 ⟨rfl, hs⟩
      refine R.ev rfl (E.pickT rfl rfl) ?_
      refine R.ev rfl (E.assign rfl) ?_
      refine R.done ?_
      refine X.keep [(4, _)] ⟨rfl, trivial⟩ ?_
      refine X.next ?_
      refine C.ret ?_
      refine X.ret1 rfl rfl ?_
      exact ⟨rfl, (hs.less (hk2.trans hk3).le).mod⟩

namespace keyringOrder
open Go.ChangeShapes Go.WideShapes Go.ChangeAt Go.RowKit
open Go.ChangeMaps (open_string shut_string)
set_option linter.unusedVariables false

theorem own : ownKnob Tryd.prog.godebug = none := by kernel_rfl
theorem laidOut : laidOutB Tryd.prog = true := by kernel_rfl
theorem door_met (os : Os) (args : Array Value) : laidMetH Tryd.prog Rows.keyringOrderRow.laid ((World.doorLaid Tryd.prog 400 os).forCall (fun _ _ => 0) ⟨#[], args, []⟩).memory :=
  laidMetH_of_parts3 (fuel := 8) (laidMet_of_run' 8 (by kernel_rfl) (by kernel_rfl)) (by kernel_rfl) (by kernel_rfl)
set_option maxRecDepth 100000 in
theorem lifted (os : Os) (started : os.Started) (H : Type) (enc : TypeId × Value → H) :
    ReturnsInHanded {} Tryd.checked os 6 .any (fun w args => (Rows.keyringOrderSpec.pre enc Tryd.prog Tryd.f6 [] false w args ∧ laidMetH Tryd.prog Rows.keyringOrderRow.laid w) ∧ sizedMet enc Tryd.prog Tryd.f6 (OpenSpec.ofChange Rows.keyringOrderSpec) false w args)
      (Rows.keyringOrderSpec.post enc Tryd.prog Tryd.f6 false true false false) := by
  refine returnsInHanded_of_change_and (C := Tryd.checked) (X := fun w _ => laidMetH Tryd.prog Rows.keyringOrderRow.laid w) (fun _ _ _ hh h => h.of_heap hh) own started (by kernel_rfl) Tryd.func6
    (ChangeSpec.witness_shaped (enc := enc) (C := Tryd.checked) (os := os) (X := fun w _ => laidMetH Tryd.prog Rows.keyringOrderRow.laid w) false (World.doorLaid Tryd.prog 400 os) #[.slice none 0 0, .slice none 0 0] 8 rfl (World.shaped_of_RefB (by kernel_rfl) (by kernel_rfl)) (by kernel_rfl) (by kernel_rfl) (by kernel_rfl) (door_met os _)) ?_
  intro W base args ds gs before hval0 hW _ _ hL _
  have hval : ∀ (j : Nat) t v, Tryd.f6.params[j]? = some t → args[j]? = some v → Value.okWide Tryd.prog W .any base t v := hval0
  have hW' := hW
  obtain ⟨p, q, hA0, hV, rfl, hfz, hnd⟩ := hW
  have hA : DataW.TrodAll enc Tryd.prog W 0 (fun _ => true) true Tryd.f6.params.toList args.toList ds p := hA0
  rw [Tryd.params6] at hA hval
  obtain ⟨v0, vs0, d0, ds0, p0, q0, hargs, rfl, rfl, h0, r0⟩ := trodAll_cons hA
  obtain ⟨v1, vs1, d1, ds1, p1, q1, rfl, rfl, rfl, h1, r1⟩ := trodAll_cons r0
  obtain ⟨rfl, rfl, rfl⟩ := trodAll_nil r1
  obtain rfl : args = #[v0, v1] := by cases args; simp_all
  obtain ⟨rfl, rfl⟩ := trodVars_none hV
  have lt0 : ∀ x ∈ p0, x.block < W.heap.size := by obtain ⟨m, hm⟩ := h0; exact DataW.trod_lt m _ _ _ hm
  have a0 := Eng.argv_of (hval 0 22 v0 rfl rfl) h0
  have lt1 : ∀ x ∈ p1, x.block < W.heap.size := by obtain ⟨m, hm⟩ := h1; exact DataW.trod_lt m _ _ _ hm
  have a1 := Eng.argv_of (hval 1 65 v1 rfl rfl) h1
  clear hA0 hval0
  refine Calls.mono (korder_walk W (laid_kc hL) v0 a0 v1 a1) fun e W' ⟨v, he, hv, hm⟩ => ?_
  subst he
  subst hv
  have bel := hm.below
  exact ⟨_, rfl, _, _, _, [], _, [], hW', trodAll_mk1 (shut_bool Tryd.underlying4 _), (trodAll_cons_mk (Below.trod laidOut (by kernel_rfl) (of_decide_eq_true (by kernel_rfl)) h0 bel lt0) (trodAll_cons_mk (Below.trod laidOut (by kernel_rfl) (of_decide_eq_true (by kernel_rfl)) h1 bel lt1) trodAll_mk0)), rfl, bel.frame _, fun h => by cases h⟩

theorem over : Rows.keyringOrderRow.holds Tryd.pinned (OpenSpec.ofChange Rows.keyringOrderSpec) :=
  OpenClaim.holds_of_wide 6 Tryd.f6 rfl rfl rfl rfl rfl rfl rfl ⟨rfl, rfl, rfl, rfl, rfl⟩ rfl rfl rfl rfl rfl (by kernel_rfl) Tryd.func6 (by kernel_rfl)
    (of_decide_eq_true (by kernel_rfl)) (by unfold Func.isWrapper; first | (rw [if_pos (by decide +kernel)]; kernel_rfl) | (rw [if_neg (by decide +kernel)]; exact ⟨rfl, rfl⟩))
    (fun os started H enc _ => lifted os started H enc)
end keyringOrder
/-- the statement: the tied card -/
theorem keyringOrder_holds : Rows.KeyringOrderCardSaid :=
  Claim7.holds_tied_plain_at .later [] [.data] true (true, "c0ab8a36735131c8a9cd87cc07d7b40f6a8e739a1cb5823313f320602ea95481") false
    keyringOrder.over (fun _ h => by cases h) (by kernel_rfl) (fun _ h => by cases h) keyringOrder_row_tie rfl ⟨rfl, rfl⟩ (by kernel_rfl) rfl
    (fun f fn hf hfn => by
      obtain rfl : f = 6 := Option.some.inj ((show Tryd.prog.funcNamed "bulletin/bulletinlaw19.KeyringOrder" = some 6 by kernel_rfl).symm.trans hf) |>.symm
      obtain rfl : fn = Tryd.f6 := (Option.some.inj (Tryd.func6.symm.trans hfn)).symm
      exact ⟨by kernel_rfl, fun j t ht => by
        rw [Tryd.params6] at ht
        have ht := List.mem_of_getElem? (by simpa using ht)
        have key : ∀ t ∈ ([22, 65] : List TypeId), Tryd.prog.wantsStandIn t = false := by
          intro t ht
          simp only [List.mem_cons, List.not_mem_nil, or_false] at ht
          rcases ht with rfl | rfl <;> kernel_rfl
        exact key t (by simpa using ht)⟩)
    (by kernel_rfl)
#print axioms keyringOrder_holds
end Go.Proofs.YtbkgibgomohdjaaDoor
