/-
  SupersedePaths returns true for every input. No condition.
-/
import Derived.Test.YtmjmichghfepkaaRows
import Derived.Test.YtmjmichghfepkaaSupY
namespace Go.Proofs.Ytmjmichghfepkaa
open Go.Eng Go.RowKit Go.Sort

theorem PathR.step1 {L : List RR} {x : RR} {q : List RR} (h : PathR L x q) : ∀ (k : Nat) (y z : RR), q[k]? = some y → q[k + 1]? = some z → Best (succs L y) z := by
  induction h with
  | last h => intro k y z _ h2; simp at h2
  | @cons x y p b hp ih =>
    intro k u z h1 h2
    cases k with
    | zero =>
      obtain ⟨r, rfl⟩ := hp.head
      simp at h1 h2
      subst h1; subst h2; exact b
    | succ k =>
      rw [List.getElem?_cons_succ] at h1 h2
      exact ih k u z h1 h2
theorem SuccI.head {L : List RR} (hn : (L.map RR.id).Nodup) {y z : RR} (hy : y ∈ L) (hb : Best (succs L y) z) {I : List (Vec 32)} (h : SuccI L y.id I) : I[0]? = some z.id := by
  rcases h with ⟨h0, _⟩ | ⟨x, hx, hxa, S, h1, h2, rfl⟩
  · exact absurd (List.mem_map.2 ⟨y, hy, rfl⟩) (hasId_false.1 h0)
  · obtain rfl := id_inj hn hx hy hxa
    have hz := (h2 z).2 hb.mem
    cases S with
    | nil => simp at hz
    | cons u S =>
      rcases List.mem_cons.1 hz with rfl | hz
      · rfl
      · have := (List.pairwise_cons.1 h1).1 z hz
        rw [hb.min u ((h2 u).1 (by simp))] at this; cases this
theorem SuccI.none {L : List RR} (hn : (L.map RR.id).Nodup) {z : RR} (hz : z ∈ L) (hs : succs L z = []) {I : List (Vec 32)} (h : SuccI L z.id I) : I = [] := by
  rcases h with ⟨h0, h1⟩ | ⟨x, hx, hxa, S, h1, h2, rfl⟩
  · exact h1
  · obtain rfl := id_inj hn hx hz hxa
    rw [hs] at h2
    cases S with
    | nil => rfl
    | cons u S => have := (h2 u).1 (by simp); simp at this
structure PFacts (L : List RR) (a : Vec 32) (I : List (Vec 32)) : Prop where
  hd : 0 < I.length → I[0]? = some a
  lst : 0 < I.length → ∃ z ∈ L, I[I.length - 1]? = some z.id ∧ I.getLast?.getD vz = z.id ∧ succs L z = []
  stp : ∀ k a b, I[k]? = some a → I[k + 1]? = some b → ∃ y ∈ L, ∃ z, y.id = a ∧ z.id = b ∧ Best (succs L y) z
  two : 1 < I.length → wdId L (I.getLast?.getD vz) = false ∧ wdId L a = true
theorem PathI.facts {L : List RR} (hn : (L.map RR.id).Nodup) {x : RR} (hx : x ∈ L) {I : List (Vec 32)} (h : PathI L x.id I) : PFacts L x.id I := by
  rcases h with ⟨_, rfl⟩ | ⟨x', hx', hxa, ⟨q, h1, rfl⟩ | ⟨_, rfl⟩⟩
  · exact ⟨by simp, by simp, by simp, by simp⟩
  · obtain rfl := id_inj hn hx' hx hxa
    obtain ⟨a, z, hq, hz, hb⟩ := h1.last_end
    have hqs := h1.sub hx
    have hzL : z ∈ L := hqs z (by rw [hq]; simp)
    have hgl : (q.map RR.id).getLast?.getD vz = z.id := by rw [hq]; simp
    refine ⟨fun _ => ?_, fun _ => ⟨z, hzL, ?_, hgl, hz⟩, fun k a b ha hb => ?_, fun hl => ⟨?_, ?_⟩⟩
    · obtain ⟨r, rfl⟩ := h1.head; rfl
    · rw [hq]; simp
    · rw [List.getElem?_map] at ha hb
      obtain ⟨y, hy, rfl⟩ := Option.map_eq_some_iff.1 ha
      obtain ⟨u, hu, rfl⟩ := Option.map_eq_some_iff.1 hb
      exact ⟨y, hqs y (List.mem_of_getElem? hy), u, rfl, rfl, h1.step1 k y u hy hu⟩
    · rw [hgl, wdId, findR hn hzL rfl]
      obtain ⟨y, _, hby⟩ := hb (by intro e; subst e; rw [hq] at hl; simp at hl)
      exact best_end hby hz
    · rw [wdId, findR hn hx rfl]
      obtain ⟨r, rfl⟩ := h1.head
      cases r with
      | nil => simp at hl
      | cons u r => exact wd_of_succ (h1.step1 0 x' u rfl rfl).mem
  · exact ⟨by simp, by simp, by simp, by simp⟩
theorem paths_walk (w : World) (v0 : Value) (a0 : ArgV Try.prog w 22 v0) : Ret Try.prog 10 #[v0] w fun r w' => r = .bool true ∧ Mod [] w w' := by
  obtain ⟨ad, cap, L, rfl, hc, hcm, hr⟩ := argv_rs a0
  unfold maxLen at hcm
  have hs := Sat.start w
  refine Ret.enter (n := 131) (args := [.slice ad L.length cap]) Try.func10 rfl rfl ?_
  refine C.keep [(0, _)] ⟨rfl, trivial⟩ ?_
  refine C.seq ?_
  refine C.region ?_
  refine R.ev rfl (E.assign rfl) ?_
  refine R.done ?_
  refine X.keep [(0, _)] ⟨rfl, trivial⟩ ?_
  refine X.next ?_
  refine C.seq ?_
  refine C.region ?_
  refine R.ev rfl (E.move rfl) ?_
  refine R.call ⟨_, _, Try.func13, rfl, by kernel_rfl⟩ rfl rfl (rows_any (L := L) hs (by omega)) ?_
  rintro _ w1 ⟨K1, v1, F1, A, rfl, hk1, r1, hA, hG, hs⟩
  have hAl : A.length ≤ 24 := by have := congrArg List.length hA; rw [List.length_map, List.length_take] at this; omega
  obtain ⟨K1', hk1', rr1, hs⟩ := r1.freezeK hs
  have hG := hG.mono hk1'
  have hk1 := hk1.trans hk1'
  obtain ⟨ad1, cap1, rfl, _⟩ := rr1.ex
  refine R.ev rfl (E.move rfl) ?_
  refine R.ev rfl (E.extract rfl rfl) ?_
  refine R.ev rfl (E.extract rfl rfl) ?_
  refine R.ev rfl (E.assign rfl) ?_
  refine R.ev rfl (E.assign rfl) ?_
  refine R.done ?_
  refine X.keep [(3, _)] ⟨rfl, trivial⟩ ?_
  refine X.next ?_
  refine C.seq ?_
  refine C.seq ?_
  refine C.region ?_
  refine R.call ⟨_, _, Try.func16, rfl, by kernel_rfl⟩ rfl rfl (known_any hs) ?_
  rintro _ w2 ⟨rfl, hs⟩
  refine R.ev rfl (E.notT rfl) ?_
  refine R.done ?_
  refine X.keep [(3, _), (19, _)] ⟨rfl, rfl, trivial⟩ ?_
  refine X.next ?_
  refine C.cfalse rfl ?_
  refine C.skip ?_
  refine X.next ?_
  refine C.seq ?_
  refine C.region ?_
  refine R.ev rfl (E.move rfl) ?_
  refine R.call ⟨_, _, Try.func26, rfl, by kernel_rfl⟩ rfl rfl (set_any (A := A) hG (by omega) hs) ?_
  rintro _ w4 ⟨K4, p, M, F4, L', ok, rfl, hk4, hI, hGM, hw, hok, hs⟩
  have hG := hG.mono hk4
  have rr4 : KRow encA 83 K4 (.slice ad1 A.length cap1) A := KRow.mono (k := hk4) (h := rr1)
  refine R.ev rfl (E.move rfl) ?_
  refine R.ev rfl (E.extract rfl rfl) ?_
  refine R.ev rfl (E.extract rfl rfl) ?_
  refine R.ev rfl (E.assign rfl) ?_
  refine R.ev rfl (E.assign rfl) ?_
  refine R.done ?_
  refine X.keep [(3, _), (5, _), (6, _)] ⟨rfl, rfl, rfl, trivial⟩ ?_
  refine X.next ?_
  refine C.seq ?_
  refine C.seq ?_
  refine C.region ?_
  refine R.ev rfl (E.assign rfl) ?_
  refine R.done ?_
  refine X.keep [(3, _), (5, _), (6, _), (7, _)] ⟨rfl, rfl, rfl, rfl, trivial⟩ ?_
  refine X.next ?_
  refine C.block ?_
  refine C.loop (T := Nat × Kn) [(3, _), (5, _), (6, _)] (fun (i, _) => [(7, .int .i64 (i : Nat))]) (fun (i, K5) w' => i ≤ A.length ∧ KLe K4 K5 ∧ Sat K5 w' (F4 :: [])) (fun (i, _) => A.length - i) ((0, K4)) ⟨rfl, rfl, rfl, rfl, trivial⟩ ⟨Nat.zero_le _, KLe.refl K4, hs.to⟩ ?_
  rintro ⟨i, K5⟩ w5 ⟨hi, hk5, hs⟩
  have rr5 : KRow encA 83 K5 (.slice ad1 A.length cap1) A := KRow.mono (k := hk5) (h := rr4)
  refine C.keep [(3, _), (5, _), (6, _), (7, _)] ⟨rfl, rfl, rfl, rfl, trivial⟩ ?_
  refine C.seq ?_
  refine C.seq ?_
  refine C.region ?_
  refine R.ev rfl (E.move rfl) ?_
  refine R.ev rfl (E.move rfl) ?_
  refine R.ev rfl (E.lenSl rfl Try.underlying27) ?_
  refine R.ev rfl (E.lss rfl rfl) ?_
  refine R.ev rfl (E.move rfl) ?_
  refine R.split 29 rfl (fun h29 => ?_) (fun h29 => ?_)
  · refine R.gyes rfl rfl ?_
    refine R.ev rfl (E.move rfl) ?_
    refine R.ev rfl (E.pickT rfl rfl) ?_
    refine R.done ?_
    refine X.keep [(3, _), (5, _), (6, _), (7, _), (31, _)] ⟨rfl, rfl, rfl, rfl, rfl, trivial⟩ ?_
    refine X.next ?_
    refine C.cbool rfl (fun h31 => ?_) (fun h31 => ?_)
    · refine C.skip ?_
      refine X.next ?_
      refine C.seq ?_
      refine C.block ?_
      refine C.seq ?_
      refine C.region ?_
      have hil : i < A.length := by have := of_decide_eq_true h29; omega
      have hLL := hok h31
      obtain ⟨x, bk, of, hx, mx, lx, rfl, Ax⟩ := (hs.to (Hs := [])).el (i := i) (ad := ad1) (n := A.length) (c := cap1) hil
      have hxL : x.x ∈ L' := by rw [hLL]; exact List.mem_map.2 ⟨x, mx, rfl⟩
      have hLl : L'.length ≤ 24 := by rw [hLL, List.length_map]; exact hAl
      refine R.ev rfl (E.move rfl) ?_
      refine R.ev rfl (E.move rfl) ?_
      refine R.ev rfl (E.move rfl) ?_
      refine R.ev rfl (E.indexAddr (i := i) rfl rfl Try.underlying27 Try.sz42 rfl (by omega)) ?_
      first | refine R.ev rfl (E.fieldAddr0 0 rfl Try.underlying42 rfl Try.sz37 rfl) ?_ | refine R.ev rfl (E.fieldAddrN 0 rfl Try.underlying42 rfl Try.sz37 rfl) ?_
      refine R.ev rfl (E.loadRowC rfl Try.underlying37 rfl Try.sz37 (At.partC (Ax _ hs.to))) ?_
      refine R.call ⟨_, _, Try.func33, rfl, by kernel_rfl⟩ rfl rfl (path_any (a := x.x.id) hI (hGM.mono hk5) (by omega) hs) ?_
      rintro v8 w8 ⟨K6, I, hk6, r8, hP, hs⟩
      obtain ⟨ad8, cap8, rfl, hsl8, hc8⟩ := r8.ex
      have hfa := hP.facts hI.nd hxL
      have hIl := hP.len hI.nd
      have e1 := encV_len x.x.id
      refine R.ev rfl (E.assign rfl) ?_
      refine R.done ?_
      refine X.keep [(3, _), (5, _), (6, _), (7, _), (8, _)] ⟨rfl, rfl, rfl, rfl, rfl, trivial⟩ ?_
      refine X.next ?_
      refine C.seq ?_
      refine C.region ?_
      refine R.ev rfl (E.move rfl) ?_
      refine R.ev rfl (E.move rfl) ?_
      refine R.ev rfl (E.move rfl) ?_
      refine R.ev rfl (E.indexAddr (i := i) rfl rfl Try.underlying27 Try.sz42 rfl (by omega)) ?_
      first | refine R.ev rfl (E.fieldAddr0 0 rfl Try.underlying42 rfl Try.sz37 rfl) ?_ | refine R.ev rfl (E.fieldAddrN 0 rfl Try.underlying42 rfl Try.sz37 rfl) ?_
      refine R.ev rfl (E.loadRowC rfl Try.underlying37 rfl Try.sz37 (At.partC (Ax _ (hs.less hk6.le).to))) ?_
      refine R.call ⟨_, _, Try.func34, rfl, by kernel_rfl⟩ rfl rfl (end_any (a := x.x.id) hI ((hGM.mono hk5).mono hk6) (by omega) hs) ?_
      rintro _ w9 ⟨K7, I', rfl, hk7, hP', hs⟩
      obtain rfl := hP'.uniq hI.nd hP
      have r9 : KRow encV 32 K7 (.slice ad8 I'.length cap8) I' := KRow.mono (k := hk7) (h := r8)
      have hk57 := hk6.trans hk7
      generalize hend : I'.getLast?.getD vz = en
      have l2 := en.2
      have e2 := encV_len en
      refine R.ev rfl (E.move rfl) ?_
      refine R.ev rfl (E.extract rfl rfl) ?_
      refine R.ev rfl (E.extract rfl rfl) ?_
      refine R.sallocA hs Try.zr37 rfl ?_
      intro b9 w9 hs
      first | refine R.cstoreAll hs rfl rfl Try.sz37 (by first | rfl | assumption | exact encV_len _ | exact Enc.len _ | exact len_ub (by assumption) | simp [*]) (by first | rfl | assumption | exact encV_len _ | exact Enc.len _ | exact len_ub (by assumption) | simp [*]) (by first | assumption | exact OneL.all | exact Enc.one _ | exact ub_all _ | (repeat' (first | refine List.forall_mem_cons.2 ⟨?_, ?_⟩ | exact List.forall_mem_nil _ | rfl | exact OneC.one | exact KRow.oneC' (by assumption)))) ?_ | refine R.cstore hs rfl rfl Try.sz37 (by first | rfl | assumption | exact encV_len _ | exact Enc.len _ | exact len_ub (by assumption) | simp [*]) (by simp [*]) (by first | assumption | exact OneL.all | exact Enc.one _ | exact ub_all _ | (repeat' (first | refine List.forall_mem_cons.2 ⟨?_, ?_⟩ | exact List.forall_mem_nil _ | rfl | exact OneC.one | exact KRow.oneC' (by assumption)))) ?_
      intro w9_11 hs
      try simp only [List.set_cons_zero, List.set_cons_succ] at hs
      refine R.ev rfl (E.assign rfl) ?_
      refine R.done ?_
      refine X.keep [(3, _), (5, _), (6, _), (7, _), (8, _), (9, _), (10, _)] ⟨rfl, rfl, rfl, rfl, rfl, rfl, rfl, trivial⟩ ?_
      refine X.next ?_
      refine C.seq ?_
      refine C.seq ?_
      refine C.drawn (SatS hs) ([10, 15, 18, 24, 29], [0, 1, 2, 3, 4, 5, 6, 7, 8, 9, 11, 12, 13, 14, 16, 17, 19, 20, 21, 22, 23, 25, 26, 27, 28, 31, 32, 33, 34, 35]) (by kernel_rfl) ?_
      have hs := hs.drew
      refine D.evP 0 rfl (by kernel_rfl) rfl (fun _ => hs.to) (fun _ => E.move rfl) ?_
      refine D.evP 1 rfl (by kernel_rfl) rfl (fun _ => hs.to) (fun _ => E.move rfl) ?_
      refine D.evP 2 rfl (by kernel_rfl) rfl (fun _ => hs.to) (fun _ => E.lenSl rfl Try.underlying40) ?_
      refine D.evP 3 rfl (by kernel_rfl) rfl (fun _ => hs.to) (fun _ => E.gtr rfl rfl) ?_
      refine D.evP 4 rfl (by kernel_rfl) rfl (fun _ => hs.to) (fun _ => (E.neqB rfl rfl Try.underlying4).isB (c := false) (by simp)) ?_
      refine D.evP 5 rfl (by kernel_rfl) rfl (fun _ => hs.to) (fun _ => E.move rfl) ?_
      refine D.evPG 6 rfl (by kernel_rfl) rfl rfl rfl (fun _ => hs.to) (fun _ => E.move rfl) ?_
      refine D.evPG 7 rfl (by kernel_rfl) rfl rfl rfl (fun _ => hs.to) (fun _ => E.move rfl) ?_
      refine D.split 58 rfl (fun h58 => ?_) (fun h58 => ?_)
      · refine D.evPG 8 rfl (by kernel_rfl) rfl rfl rfl (fun _ => hs.to) (fun _ => E.move rfl) ?_
        have hpos : 0 < I'.length := of_decide_eq_true h58
        obtain ⟨z, hzL, hzl, hzg, hze⟩ := hfa.lst hpos
        have hzg : en = z.id := hend ▸ hzg
        have e3 := encV_len z.id
        have l3 := z.id.2
        obtain ⟨c8, bk_8, of_8, hc80, _, _, had, Ah⟩ := (hs.to (Hs := [])).el (i := 0) (ad := ad8) (n := I'.length) (c := cap8) hpos
        obtain rfl : x.x.id = c8 := by rw [hfa.hd hpos] at hc80; simpa using hc80
        have r9' : KRow encV 32 K7 (.slice (some ⟨bk_8, of_8, none⟩) I'.length cap8) I' := had ▸ r9
        have Al := (hs.to (Hs := [])).elAt (b := bk_8) (off := of_8) (n := I'.length) cap8 hzl
        refine D.evPG 9 rfl (by kernel_rfl) rfl rfl rfl (fun _ => hs.to) (fun _ => E.indexAddr (i := 0) (congrArg (fun a => some (Value.slice a I'.length cap8)) had) rfl Try.underlying40 Try.sz37 rfl (by omega)) ?_
        refine D.evPG 11 rfl (by kernel_rfl) rfl rfl rfl (fun _ => hs.to) (fun _ => E.move rfl) ?_
        refine D.evPG 12 rfl (by kernel_rfl) rfl rfl rfl (fun _ => hs.to) (fun _ => E.move rfl) ?_
        refine D.evPG 13 rfl (by kernel_rfl) rfl rfl rfl (fun _ => hs.to) (fun _ => E.indexAddr (i := i) rfl rfl Try.underlying27 Try.sz42 rfl (by omega)) ?_
        first | refine D.evPG 14 rfl (by kernel_rfl) rfl rfl rfl (fun _ => hs.to) (fun _ => E.fieldAddr0 0 rfl Try.underlying42 rfl Try.sz37 rfl) ?_ | refine D.evPG 14 rfl (by kernel_rfl) rfl rfl rfl (fun _ => hs.to) (fun _ => E.fieldAddrN 0 rfl Try.underlying42 rfl Try.sz37 rfl) ?_
        refine D.evG 10 rfl (by kernel_rfl) rfl rfl rfl hs.to (fun _ hS => E.loadRow rfl Try.underlying37 rfl Try.sz37 (Ah _ hS.to) e1) ?_
        refine D.evG 15 rfl (by kernel_rfl) rfl rfl rfl hs.to (fun _ hS => E.loadRowC rfl Try.underlying37 rfl Try.sz37 (At.partC (Ax _ (hS.less hk57.le).to))) ?_
        first | refine D.evPG 16 rfl (by kernel_rfl) rfl rfl rfl (fun _ => hs.to) (fun _ => (E.neV 10 rfl rfl Try.lv37 rfl Try.underlying37 rfl Try.gd37).isF (fun h => h rfl)) ?_ | refine D.evPG 16 rfl (by kernel_rfl) rfl rfl rfl (fun _ => hs.to) (fun _ => (E.neId 10 32 rfl rfl Try.lv37 rfl Try.underlying37 rfl Try.gd37 (by assumption) (by assumption)).isF (fun h => h rfl)) ?_
        refine D.evPG 17 rfl (by kernel_rfl) rfl rfl rfl (fun _ => hs.to) (fun _ => E.move rfl) ?_
        refine D.evPG 19 rfl (by kernel_rfl) rfl rfl rfl (fun _ => hs.to) (fun _ => E.move rfl) ?_
        refine D.evPG 20 rfl (by kernel_rfl) rfl rfl rfl (fun _ => hs.to) (fun _ => E.move rfl) ?_
        refine D.evPG 21 rfl (by kernel_rfl) rfl rfl rfl (fun _ => hs.to) (fun _ => E.lenSl rfl Try.underlying40) ?_
        refine D.evPG 22 rfl (by kernel_rfl) rfl rfl rfl (fun _ => hs.to) (fun _ => (E.sub rfl rfl (by omega) (by omega)).isI (c := ((I'.length - 1 : Nat) : Int)) (by omega)) ?_
        refine D.evPG 23 rfl (by kernel_rfl) rfl rfl rfl (fun _ => hs.to) (fun _ => E.indexAddr (i := I'.length - 1) (congrArg (fun a => some (Value.slice a I'.length cap8)) had) rfl Try.underlying40 Try.sz37 rfl (by omega)) ?_
        refine D.evG 18 rfl (by kernel_rfl) rfl rfl rfl hs.to (fun _ hS => E.loadRowC rfl Try.underlying37 rfl Try.sz37 (by first | exact ⟨hS.ldA, by first | rfl | assumption | exact encV_len _ | exact Enc.len _ | exact len_ub (by assumption)⟩ | exact ⟨hS.ldP rfl, by first | rfl | assumption | exact encV_len _ | exact Enc.len _ | exact len_ub (by assumption)⟩ | exact ⟨hS.ldM rfl rfl, by first | rfl | assumption | exact encV_len _ | exact Enc.len _ | exact len_ub (by assumption)⟩ | exact ⟨hS.ldM (by assumption) (by first | rfl | assumption), by first | rfl | assumption | exact encV_len _ | exact Enc.len _ | exact len_ub (by assumption)⟩ | exact ⟨by assumption, by first | rfl | assumption | exact encV_len _ | exact Enc.len _ | exact len_ub (by assumption)⟩ | exact ⟨(by assumption : ∀ w', Sat _ w' _ → At w' _ _ _) _ hS, by first | rfl | assumption | exact encV_len _ | exact Enc.len _ | exact len_ub (by assumption)⟩ | exact hS.ldp | exact At.partC (by assumption) | exact At.partC ((by assumption : ∀ w', Sat _ w' _ → At w' _ _ _) _ hS))) ?_
        refine D.evG 24 rfl (by kernel_rfl) rfl rfl rfl hs.to (fun _ hS => E.loadRow rfl Try.underlying37 rfl Try.sz37 (Al _ hS.to) e3) ?_
        first | refine D.evPG 25 rfl (by kernel_rfl) rfl rfl rfl (fun _ => hs.to) (fun _ => (E.neV 10 rfl rfl Try.lv37 rfl Try.underlying37 rfl Try.gd37).isF (fun h => h (by rw [hzg]))) ?_ | refine D.evPG 25 rfl (by kernel_rfl) rfl rfl rfl (fun _ => hs.to) (fun _ => (E.neId 10 32 rfl rfl Try.lv37 rfl Try.underlying37 rfl Try.gd37 (by assumption) (by assumption)).isF (fun h => h (by rw [hzg]))) ?_
        refine D.evPG 26 rfl (by kernel_rfl) rfl rfl rfl (fun _ => hs.to) (fun _ => E.pickF rfl rfl) ?_
        refine D.evPG 27 rfl (by kernel_rfl) rfl rfl rfl (fun _ => hs.to) (fun _ => E.move rfl) ?_
        refine D.evPG 28 rfl (by kernel_rfl) rfl rfl rfl (fun _ => hs.to) (fun _ => E.move rfl) ?_
        refine D.evG 29 rfl (by kernel_rfl) rfl rfl rfl hs.to (fun _ hS => E.loadRowC rfl Try.underlying37 rfl Try.sz37 (by first | exact ⟨hS.ldA, by first | rfl | assumption | exact encV_len _ | exact Enc.len _ | exact len_ub (by assumption)⟩ | exact ⟨hS.ldP rfl, by first | rfl | assumption | exact encV_len _ | exact Enc.len _ | exact len_ub (by assumption)⟩ | exact ⟨hS.ldM rfl rfl, by first | rfl | assumption | exact encV_len _ | exact Enc.len _ | exact len_ub (by assumption)⟩ | exact ⟨hS.ldM (by assumption) (by first | rfl | assumption), by first | rfl | assumption | exact encV_len _ | exact Enc.len _ | exact len_ub (by assumption)⟩ | exact ⟨by assumption, by first | rfl | assumption | exact encV_len _ | exact Enc.len _ | exact len_ub (by assumption)⟩ | exact ⟨(by assumption : ∀ w', Sat _ w' _ → At w' _ _ _) _ hS, by first | rfl | assumption | exact encV_len _ | exact Enc.len _ | exact len_ub (by assumption)⟩ | exact hS.ldp | exact At.partC (by assumption) | exact At.partC ((by assumption : ∀ w', Sat _ w' _ → At w' _ _ _) _ hS))) ?_
        refine D.act 30 rfl (by kernel_rfl) ?_
        refine R.gyes rfl rfl ?_
        refine R.call ⟨_, _, Try.func35, rfl, by kernel_rfl⟩ rfl rfl (succs_any (a := en) hI (((hGM.mono hk5).mono hk57)) (by omega) hs) ?_
        rintro v10 w10 ⟨K8, S, hk8, r10, hSI, hs⟩
        obtain rfl : S = [] := SuccI.none hI.nd hzL hze (by rw [← hzg]; exact hSI)
        obtain ⟨ad10, cap10, rfl, hsl10, hc10⟩ := r10.ex
        refine D.backT (by kernel_rfl) ?_
        refine D.evPG 31 rfl (by kernel_rfl) rfl rfl rfl (np (by kernel_rfl)) (fun _ => E.lenSl rfl Try.underlying40) ?_
        refine D.evPG 32 rfl (by kernel_rfl) rfl rfl rfl (np (by kernel_rfl)) (fun _ => (E.neq rfl rfl).isF (fun h => h rfl)) ?_
        refine D.evPG 33 rfl (by kernel_rfl) rfl rfl rfl (np (by kernel_rfl)) (fun _ => E.pickF rfl rfl) ?_
        refine D.evPG 34 rfl (by kernel_rfl) rfl rfl rfl (np (by kernel_rfl)) (fun _ => E.pickT rfl rfl) ?_
        refine D.evP 35 rfl (by kernel_rfl) rfl (np (by kernel_rfl)) (fun _ => E.pickF rfl rfl) ?_
        refine D.done rfl (by kernel_rfl) ?_
        refine X.keep [(3, _), (5, _), (6, _), (7, _), (8, _), (9, _), (86, _)] ⟨rfl, rfl, rfl, rfl, rfl, rfl, rfl, trivial⟩ ?_
        refine X.next ?_
        refine C.cfalse rfl ?_
        refine C.skip ?_
        refine X.next ?_
        refine C.seq ?_
        refine C.seq ?_
        refine C.region ?_
        refine R.ev rfl (E.assign rfl) ?_
        refine R.done ?_
        refine X.keep [(3, _), (5, _), (6, _), (7, _), (8, _), (9, _), (11, _)] ⟨rfl, rfl, rfl, rfl, rfl, rfl, rfl, trivial⟩ ?_
        refine X.next ?_
        refine C.block ?_
        refine C.loop (T := Nat × Kn) [(3, _), (5, _), (6, _), (7, _), (8, _), (9, _)] (fun (k, _) => [(11, .int .i64 (k : Nat))]) (fun (k, K9) w' => 1 ≤ k ∧ KLe K7 K9 ∧ Sat K9 w' (row b9 37 (en.1.map ub) :: F4 :: [])) (fun (k, _) => I'.length - k) ((1, _)) ⟨rfl, rfl, rfl, rfl, rfl, rfl, rfl, trivial⟩ ⟨Nat.le_refl _, by first | exact hk8 | exact KLe.refl _, hs.to⟩ ?_
        rintro ⟨k, K9⟩ w11 ⟨hk, hk9, hs⟩
        have r11 : KRow encV 32 K9 (.slice ad8 I'.length cap8) I' := KRow.mono (k := hk9) (h := r9)
        refine C.keep [(3, _), (5, _), (6, _), (7, _), (8, _), (9, _), (11, _)] ⟨rfl, rfl, rfl, rfl, rfl, rfl, rfl, trivial⟩ ?_
        refine C.seq ?_
        refine C.seq ?_
        refine C.region ?_
        refine R.ev rfl (E.move rfl) ?_
        refine R.ev rfl (E.move rfl) ?_
        refine R.ev rfl (E.lenSl rfl Try.underlying40) ?_
        refine R.ev rfl (E.lss rfl rfl) ?_
        refine R.done ?_
        refine X.keep [(3, _), (5, _), (6, _), (7, _), (8, _), (9, _), (11, _), (90, _)] ⟨rfl, rfl, rfl, rfl, rfl, rfl, rfl, rfl, trivial⟩ ?_
        refine X.next ?_
        refine C.cdec rfl (fun h90 => ?_) (fun h90 => ?_)
        · obtain ⟨c, bk_c, of_c, hc0, mc, lc, rfl, Ac⟩ := (hs.to (Hs := [])).el (i := k - 1) (ad := ad8) (n := I'.length) (c := cap8) (by omega)
          obtain ⟨d, hd⟩ : ∃ d, I'[k - 1 + 1]? = some d := ⟨_, List.getElem?_eq_getElem (by omega)⟩
          have Ad := (hs.to (Hs := [])).elAt (b := bk_c) (off := of_c) (n := I'.length) cap8 hd
          obtain ⟨y, hyL, u, rfl, rfl, hbu⟩ := hfa.stp _ _ _ hc0 hd
          have e4 := encV_len u.id
          refine C.skip ?_
          refine X.next ?_
          refine C.seq ?_
          refine C.block ?_
          refine C.seq ?_
          refine C.region ?_
          refine R.ev rfl (E.move rfl) ?_
          refine R.ev rfl (E.move rfl) ?_
          refine R.ev rfl (E.move rfl) ?_
          refine R.ev rfl ((E.sub rfl rfl (by omega) (by omega)).isI (c := ((k - 1 : Nat) : Int)) (by omega)) ?_
          refine R.ev rfl (E.indexAddr (i := k - 1) rfl rfl Try.underlying40 Try.sz37 rfl (by omega)) ?_
          refine R.ev rfl (E.loadRow rfl Try.underlying37 rfl Try.sz37 (Ac _ hs.to) lc) ?_
          refine R.call ⟨_, _, Try.func35, rfl, by kernel_rfl⟩ rfl rfl (succs_any (a := y.id) hI ((hGM.mono hk5).mono (hk57.trans hk9)) (by omega) hs) ?_
          rintro v15 w15 ⟨K8, S, hk8, r15, hSI, hs⟩
          obtain ⟨ad15, cap15, rfl, hsl15, hc15⟩ := r15.ex
          have hS0 := SuccI.head hI.nd hyL hbu hSI
          have hSl : 0 < S.length := (List.getElem?_eq_some_iff.1 hS0).1
          have r16 : KRow encV 32 K8 (.slice (some ⟨bk_c, of_c, none⟩) I'.length cap8) I' := KRow.mono (k := hk8) (h := r11)
          obtain ⟨u', bk_u, of_u, hu', _, _, rfl, Au⟩ := (hs.to (Hs := [])).el (i := 0) (ad := ad15) (n := S.length) (c := cap15) hSl
          obtain rfl : u.id = u' := by rw [hS0] at hu'; simpa using hu'
          refine R.ev rfl (E.assign rfl) ?_
          refine R.done ?_
          refine X.keep [(3, _), (5, _), (6, _), (7, _), (8, _), (9, _), (11, _), (12, _)] ⟨rfl, rfl, rfl, rfl, rfl, rfl, rfl, rfl, trivial⟩ ?_
          refine X.next ?_
          refine C.seq ?_
          refine C.drawn (SatS hs) ([6, 10], [0, 1, 2, 3, 4, 5, 7, 8, 9, 11, 12]) (by kernel_rfl) ?_
          have hs := hs.drew
          refine D.evP 0 rfl (by kernel_rfl) rfl (fun _ => hs.to) (fun _ => E.move rfl) ?_
          refine D.evP 1 rfl (by kernel_rfl) rfl (fun _ => hs.to) (fun _ => E.lenSl rfl Try.underlying40) ?_
          refine D.evP 2 rfl (by kernel_rfl) rfl (fun _ => hs.to) (fun _ => (E.eql rfl rfl).isF (by omega)) ?_
          refine D.evP 3 rfl (by kernel_rfl) rfl (fun _ => hs.to) (fun _ => E.move rfl) ?_
          refine D.evPG 4 rfl (by kernel_rfl) rfl rfl rfl (fun _ => hs.to) (fun _ => E.move rfl) ?_
          refine D.evPG 5 rfl (by kernel_rfl) rfl rfl rfl (fun _ => hs.to) (fun _ => E.indexAddr (i := 0) rfl rfl Try.underlying40 Try.sz37 rfl (by omega)) ?_
          refine D.evPG 7 rfl (by kernel_rfl) rfl rfl rfl (fun _ => hs.to) (fun _ => E.move rfl) ?_
          refine D.evPG 8 rfl (by kernel_rfl) rfl rfl rfl (fun _ => hs.to) (fun _ => E.move rfl) ?_
          refine D.evPG 9 rfl (by kernel_rfl) rfl rfl rfl (fun _ => hs.to) (fun _ => E.indexAddr (i := k) rfl rfl Try.underlying40 Try.sz37 rfl (by omega)) ?_
          refine D.evG 6 rfl (by kernel_rfl) rfl rfl rfl hs.to (fun _ hS => E.loadRow rfl Try.underlying37 rfl Try.sz37 (Au _ hS.to) e4) ?_
          refine D.evG 10 rfl (by kernel_rfl) rfl rfl rfl hs.to (fun _ hS => E.loadRow rfl Try.underlying37 rfl Try.sz37 ((show k - 1 + 1 = k by omega) ▸ Ad _ (hS.less hk8.le).to) e4) ?_
          first | refine D.evPG 11 rfl (by kernel_rfl) rfl rfl rfl (fun _ => hs.to) (fun _ => (E.neV 10 rfl rfl Try.lv37 rfl Try.underlying37 rfl Try.gd37).isF (fun h => h rfl)) ?_ | refine D.evPG 11 rfl (by kernel_rfl) rfl rfl rfl (fun _ => hs.to) (fun _ => (E.neId 10 32 rfl rfl Try.lv37 rfl Try.underlying37 rfl Try.gd37 (by assumption) (by assumption)).isF (fun h => h rfl)) ?_
          refine D.evP 12 rfl (by kernel_rfl) rfl (fun _ => hs.to) (fun _ => E.pickF rfl rfl) ?_
          refine D.done rfl (by kernel_rfl) ?_
          refine X.keep [(3, _), (5, _), (6, _), (7, _), (8, _), (9, _), (11, _), (112, _)] ⟨rfl, rfl, rfl, rfl, rfl, rfl, rfl, rfl, trivial⟩ ?_
          refine X.next ?_
          refine C.cfalse rfl ?_
          refine C.skip ?_
          refine X.blockNormal ?_
          refine X.next ?_
          refine C.region ?_
          refine R.ev rfl (E.move rfl) ?_
          refine R.ev rfl (E.add rfl rfl (by omega) (by omega)) ?_
          refine R.ev rfl (E.assign rfl) ?_
          refine R.done ?_
          refine X.keep [(3, _), (5, _), (6, _), (7, _), (8, _), (9, _), (11, _)] ⟨rfl, rfl, rfl, rfl, rfl, rfl, rfl, trivial⟩ ?_
          exact X.again (k + 1, K8) ⟨rfl, rfl, rfl, rfl, rfl, rfl, rfl, trivial⟩ ⟨by omega, hk9.trans hk8, hs.to⟩ (by show _ - _ < _ - _; omega)
        · refine C.exit ?_
          refine X.thenExit ?_
          refine X.loopExit ?_
          refine X.blockExit ?_
          refine X.next ?_
          refine C.seq ?_
          refine C.region ?_
          refine R.ev rfl (E.move rfl) ?_
          refine R.ev rfl (E.lenSl rfl Try.underlying40) ?_
          refine R.ev rfl (E.gtr rfl rfl) ?_
          refine R.ev rfl (E.move rfl) ?_
          refine R.split 116 rfl (fun h116 => ?_) (fun h116 => ?_)
          · refine R.gyes rfl rfl ?_
            refine R.ev rfl (E.move rfl) ?_
            refine R.gyes rfl rfl ?_
            refine R.ev rfl (E.loadRowC rfl Try.underlying37 rfl Try.sz37 (by first | exact ⟨hs.ldA, by first | rfl | assumption | exact encV_len _ | exact Enc.len _ | exact len_ub (by assumption)⟩ | exact ⟨hs.ldP rfl, by first | rfl | assumption | exact encV_len _ | exact Enc.len _ | exact len_ub (by assumption)⟩ | exact ⟨hs.ldM rfl rfl, by first | rfl | assumption | exact encV_len _ | exact Enc.len _ | exact len_ub (by assumption)⟩ | exact ⟨hs.ldM (by assumption) (by first | rfl | assumption), by first | rfl | assumption | exact encV_len _ | exact Enc.len _ | exact len_ub (by assumption)⟩ | exact ⟨by assumption, by first | rfl | assumption | exact encV_len _ | exact Enc.len _ | exact len_ub (by assumption)⟩ | exact hs.ldp | exact At.partC (by assumption))) ?_
            refine R.gyes rfl rfl ?_
            refine R.call ⟨_, _, Try.func27, rfl, by kernel_rfl⟩ rfl rfl (isWd_any en hI ((hGM.mono hk5).mono (hk57.trans hk9)) hs) ?_
            rintro _ w18 ⟨rfl, hs⟩
            rw [← hend, (hfa.two (by have := of_decide_eq_true h116; omega)).1]
            refine R.gyes rfl rfl ?_
            refine R.ev rfl (E.move rfl) ?_
            refine R.gyes rfl rfl ?_
            refine R.ev rfl (E.move rfl) ?_
            refine R.gyes rfl rfl ?_
            refine R.ev rfl (E.move rfl) ?_
            refine R.gyes rfl rfl ?_
            refine R.ev rfl (E.move rfl) ?_
            refine R.gyes rfl rfl ?_
            refine R.ev rfl (E.indexAddr (i := i) rfl rfl Try.underlying27 Try.sz42 rfl (by omega)) ?_
            refine R.gyes rfl rfl ?_
            first | refine R.ev rfl (E.fieldAddr0 0 rfl Try.underlying42 rfl Try.sz37 rfl) ?_ | refine R.ev rfl (E.fieldAddrN 0 rfl Try.underlying42 rfl Try.sz37 rfl) ?_
            refine R.gyes rfl rfl ?_
            refine R.ev rfl (E.loadRowC rfl Try.underlying37 rfl Try.sz37 (At.partC (Ax _ (hs.less (hk57.trans hk9).le).to))) ?_
            refine R.gyes rfl rfl ?_
            refine R.call ⟨_, _, Try.func27, rfl, by kernel_rfl⟩ rfl rfl (isWd_any x.x.id hI ((hGM.mono hk5).mono (hk57.trans hk9)) hs) ?_
            rintro _ w1814 ⟨rfl, hs⟩
            rw [(hfa.two (by have := of_decide_eq_true h116; omega)).2]
            refine R.gyes rfl rfl ?_
            refine R.ev rfl ((E.not rfl).isB (c := false) rfl) ?_
            refine R.gyes rfl rfl ?_
            refine R.ev rfl (E.pickF rfl rfl) ?_
            refine R.ev rfl (E.pickT rfl rfl) ?_
            refine R.done ?_
            refine X.keep [(3, _), (5, _), (6, _), (7, _), (130, _)] ⟨rfl, rfl, rfl, rfl, rfl, trivial⟩ ?_
            refine X.next ?_
            refine C.cfalse rfl ?_
            refine C.skip ?_
            refine X.blockNormal ?_
            refine X.next ?_
            refine C.region ?_
            refine R.ev rfl (E.move rfl) ?_
            refine R.ev rfl (E.add rfl rfl (by omega) (by omega)) ?_
            refine R.ev rfl (E.assign rfl) ?_
            refine R.done ?_
            refine X.keep [(3, _), (5, _), (6, _), (7, _)] ⟨rfl, rfl, rfl, rfl, trivial⟩ ?_
            exact X.again (i + 1, K9) ⟨rfl, rfl, rfl, rfl, trivial⟩ ⟨by omega, hk5.trans (hk57.trans hk9), hs.to⟩ (by show _ - _ < _ - _; omega)
          · refine R.gskip rfl rfl rfl ?_
            refine R.gskip rfl rfl rfl ?_
            refine R.gskip rfl rfl rfl ?_
            refine R.gskip rfl rfl rfl ?_
            refine R.gundef rfl rfl ?_
            refine R.gundef rfl rfl ?_
            refine R.gundef rfl rfl ?_
            refine R.gundef rfl rfl ?_
            refine R.gundef rfl rfl ?_
            refine R.gundef rfl rfl ?_
            refine R.gundef rfl rfl ?_
            refine R.gundef rfl rfl ?_
            refine R.gskip rfl rfl rfl ?_
            refine R.ev rfl (E.pickF rfl rfl) ?_
            refine R.done ?_
            refine X.keep [(3, _), (5, _), (6, _), (7, _), (130, _)] ⟨rfl, rfl, rfl, rfl, rfl, trivial⟩ ?_
            refine X.next ?_
            refine C.cfalse rfl ?_
            refine C.skip ?_
            refine X.blockNormal ?_
            refine X.next ?_
            refine C.region ?_
            refine R.ev rfl (E.move rfl) ?_
            refine R.ev rfl (E.add rfl rfl (by omega) (by omega)) ?_
            refine R.ev rfl (E.assign rfl) ?_
            refine R.done ?_
            refine X.keep [(3, _), (5, _), (6, _), (7, _)] ⟨rfl, rfl, rfl, rfl, trivial⟩ ?_
            exact X.again (i + 1, K9) ⟨rfl, rfl, rfl, rfl, trivial⟩ ⟨by omega, hk5.trans (hk57.trans hk9), hs.to⟩ (by show _ - _ < _ - _; omega)
      · refine D.skipP 8 rfl (by kernel_rfl) rfl rfl rfl (fun _ => hs.to) ?_
        refine D.skipP 9 rfl (by kernel_rfl) rfl rfl rfl (fun _ => hs.to) ?_
        refine D.skipP 11 rfl (by kernel_rfl) rfl rfl rfl (fun _ => hs.to) ?_
        refine D.skipP 12 rfl (by kernel_rfl) rfl rfl rfl (fun _ => hs.to) ?_
        refine D.skipP 13 rfl (by kernel_rfl) rfl rfl rfl (fun _ => hs.to) ?_
        refine D.skipP 14 rfl (by kernel_rfl) rfl rfl rfl (fun _ => hs.to) ?_
        refine D.skip 10 rfl (by kernel_rfl) rfl rfl rfl hs.to ?_
        refine D.skip 15 rfl (by kernel_rfl) rfl rfl rfl hs.to ?_
        refine D.skipP 16 rfl (by kernel_rfl) rfl rfl rfl (fun _ => hs.to) ?_
        refine D.skipP 17 rfl (by kernel_rfl) rfl rfl rfl (fun _ => hs.to) ?_
        refine D.undefP 19 rfl (by kernel_rfl) rfl rfl (fun _ => hs.to) ?_
        refine D.undefP 20 rfl (by kernel_rfl) rfl rfl (fun _ => hs.to) ?_
        refine D.undefP 21 rfl (by kernel_rfl) rfl rfl (fun _ => hs.to) ?_
        refine D.undefP 22 rfl (by kernel_rfl) rfl rfl (fun _ => hs.to) ?_
        refine D.undefP 23 rfl (by kernel_rfl) rfl rfl (fun _ => hs.to) ?_
        refine D.undef 18 rfl (by kernel_rfl) rfl rfl hs.to ?_
        refine D.undef 24 rfl (by kernel_rfl) rfl rfl hs.to ?_
        refine D.undefP 25 rfl (by kernel_rfl) rfl rfl (fun _ => hs.to) ?_
        refine D.skipP 26 rfl (by kernel_rfl) rfl rfl rfl (fun _ => hs.to) ?_
        refine D.skipP 27 rfl (by kernel_rfl) rfl rfl rfl (fun _ => hs.to) ?_
        refine D.undefP 28 rfl (by kernel_rfl) rfl rfl (fun _ => hs.to) ?_
        refine D.undef 29 rfl (by kernel_rfl) rfl rfl hs.to ?_
        refine D.act 30 rfl (by kernel_rfl) ?_
        refine R.gundef rfl rfl ?_
        refine D.backT (by kernel_rfl) ?_
        refine D.undefP 31 rfl (by kernel_rfl) rfl rfl (np (by kernel_rfl)) ?_
        refine D.undefP 32 rfl (by kernel_rfl) rfl rfl (np (by kernel_rfl)) ?_
        refine D.skipP 33 rfl (by kernel_rfl) rfl rfl rfl (np (by kernel_rfl)) ?_
        refine D.evPG 34 rfl (by kernel_rfl) rfl rfl rfl (np (by kernel_rfl)) (fun _ => E.pickF rfl rfl) ?_
        refine D.evP 35 rfl (by kernel_rfl) rfl (np (by kernel_rfl)) (fun _ => E.pickF rfl rfl) ?_
        refine D.done rfl (by kernel_rfl) ?_
        refine X.keep [(3, _), (5, _), (6, _), (7, _), (8, _), (9, _), (86, _)] ⟨rfl, rfl, rfl, rfl, rfl, rfl, rfl, trivial⟩ ?_
        refine X.next ?_
        refine C.cfalse rfl ?_
        refine C.skip ?_
        refine X.next ?_
        refine C.seq ?_
        refine C.seq ?_
        refine C.region ?_
        refine R.ev rfl (E.assign rfl) ?_
        refine R.done ?_
        refine X.keep [(3, _), (5, _), (6, _), (7, _), (8, _), (9, _), (11, _)] ⟨rfl, rfl, rfl, rfl, rfl, rfl, rfl, trivial⟩ ?_
        refine X.next ?_
        refine C.block ?_
        refine C.loop (T := Nat × Kn) [(3, _), (5, _), (6, _), (7, _), (8, _), (9, _)] (fun (k, _) => [(11, .int .i64 (k : Nat))]) (fun (k, K9) w' => 1 ≤ k ∧ KLe K7 K9 ∧ Sat K9 w' (row b9 37 (en.1.map ub) :: F4 :: [])) (fun (k, _) => I'.length - k) ((1, _)) ⟨rfl, rfl, rfl, rfl, rfl, rfl, rfl, trivial⟩ ⟨Nat.le_refl _, by first | exact hk8 | exact KLe.refl _, hs.to⟩ ?_
        rintro ⟨k, K9⟩ w11 ⟨hk, hk9, hs⟩
        have r11 : KRow encV 32 K9 (.slice ad8 I'.length cap8) I' := KRow.mono (k := hk9) (h := r9)
        refine C.keep [(3, _), (5, _), (6, _), (7, _), (8, _), (9, _), (11, _)] ⟨rfl, rfl, rfl, rfl, rfl, rfl, rfl, trivial⟩ ?_
        refine C.seq ?_
        refine C.seq ?_
        refine C.region ?_
        refine R.ev rfl (E.move rfl) ?_
        refine R.ev rfl (E.move rfl) ?_
        refine R.ev rfl (E.lenSl rfl Try.underlying40) ?_
        refine R.ev rfl (E.lss rfl rfl) ?_
        refine R.done ?_
        refine X.keep [(3, _), (5, _), (6, _), (7, _), (8, _), (9, _), (11, _), (90, _)] ⟨rfl, rfl, rfl, rfl, rfl, rfl, rfl, rfl, trivial⟩ ?_
        refine X.next ?_
        refine C.cdec rfl (fun h90 => ?_) (fun h90 => ?_)
        · obtain ⟨c, bk_c, of_c, hc0, mc, lc, rfl, Ac⟩ := (hs.to (Hs := [])).el (i := k - 1) (ad := ad8) (n := I'.length) (c := cap8) (by omega)
          obtain ⟨d, hd⟩ : ∃ d, I'[k - 1 + 1]? = some d := ⟨_, List.getElem?_eq_getElem (by omega)⟩
          have Ad := (hs.to (Hs := [])).elAt (b := bk_c) (off := of_c) (n := I'.length) cap8 hd
          obtain ⟨y, hyL, u, rfl, rfl, hbu⟩ := hfa.stp _ _ _ hc0 hd
          have e4 := encV_len u.id
          refine C.skip ?_
          refine X.next ?_
          refine C.seq ?_
          refine C.block ?_
          refine C.seq ?_
          refine C.region ?_
          refine R.ev rfl (E.move rfl) ?_
          refine R.ev rfl (E.move rfl) ?_
          refine R.ev rfl (E.move rfl) ?_
          refine R.ev rfl ((E.sub rfl rfl (by omega) (by omega)).isI (c := ((k - 1 : Nat) : Int)) (by omega)) ?_
          refine R.ev rfl (E.indexAddr (i := k - 1) rfl rfl Try.underlying40 Try.sz37 rfl (by omega)) ?_
          refine R.ev rfl (E.loadRow rfl Try.underlying37 rfl Try.sz37 (Ac _ hs.to) lc) ?_
          refine R.call ⟨_, _, Try.func35, rfl, by kernel_rfl⟩ rfl rfl (succs_any (a := y.id) hI ((hGM.mono hk5).mono (hk57.trans hk9)) (by omega) hs) ?_
          rintro v15 w15 ⟨K8, S, hk8, r15, hSI, hs⟩
          obtain ⟨ad15, cap15, rfl, hsl15, hc15⟩ := r15.ex
          have hS0 := SuccI.head hI.nd hyL hbu hSI
          have hSl : 0 < S.length := (List.getElem?_eq_some_iff.1 hS0).1
          have r16 : KRow encV 32 K8 (.slice (some ⟨bk_c, of_c, none⟩) I'.length cap8) I' := KRow.mono (k := hk8) (h := r11)
          obtain ⟨u', bk_u, of_u, hu', _, _, rfl, Au⟩ := (hs.to (Hs := [])).el (i := 0) (ad := ad15) (n := S.length) (c := cap15) hSl
          obtain rfl : u.id = u' := by rw [hS0] at hu'; simpa using hu'
          refine R.ev rfl (E.assign rfl) ?_
          refine R.done ?_
          refine X.keep [(3, _), (5, _), (6, _), (7, _), (8, _), (9, _), (11, _), (12, _)] ⟨rfl, rfl, rfl, rfl, rfl, rfl, rfl, rfl, trivial⟩ ?_
          refine X.next ?_
          refine C.seq ?_
          refine C.drawn (SatS hs) ([6, 10], [0, 1, 2, 3, 4, 5, 7, 8, 9, 11, 12]) (by kernel_rfl) ?_
          have hs := hs.drew
          refine D.evP 0 rfl (by kernel_rfl) rfl (fun _ => hs.to) (fun _ => E.move rfl) ?_
          refine D.evP 1 rfl (by kernel_rfl) rfl (fun _ => hs.to) (fun _ => E.lenSl rfl Try.underlying40) ?_
          refine D.evP 2 rfl (by kernel_rfl) rfl (fun _ => hs.to) (fun _ => (E.eql rfl rfl).isF (by omega)) ?_
          refine D.evP 3 rfl (by kernel_rfl) rfl (fun _ => hs.to) (fun _ => E.move rfl) ?_
          refine D.evPG 4 rfl (by kernel_rfl) rfl rfl rfl (fun _ => hs.to) (fun _ => E.move rfl) ?_
          refine D.evPG 5 rfl (by kernel_rfl) rfl rfl rfl (fun _ => hs.to) (fun _ => E.indexAddr (i := 0) rfl rfl Try.underlying40 Try.sz37 rfl (by omega)) ?_
          refine D.evPG 7 rfl (by kernel_rfl) rfl rfl rfl (fun _ => hs.to) (fun _ => E.move rfl) ?_
          refine D.evPG 8 rfl (by kernel_rfl) rfl rfl rfl (fun _ => hs.to) (fun _ => E.move rfl) ?_
          refine D.evPG 9 rfl (by kernel_rfl) rfl rfl rfl (fun _ => hs.to) (fun _ => E.indexAddr (i := k) rfl rfl Try.underlying40 Try.sz37 rfl (by omega)) ?_
          refine D.evG 6 rfl (by kernel_rfl) rfl rfl rfl hs.to (fun _ hS => E.loadRow rfl Try.underlying37 rfl Try.sz37 (Au _ hS.to) e4) ?_
          refine D.evG 10 rfl (by kernel_rfl) rfl rfl rfl hs.to (fun _ hS => E.loadRow rfl Try.underlying37 rfl Try.sz37 ((show k - 1 + 1 = k by omega) ▸ Ad _ (hS.less hk8.le).to) e4) ?_
          first | refine D.evPG 11 rfl (by kernel_rfl) rfl rfl rfl (fun _ => hs.to) (fun _ => (E.neV 10 rfl rfl Try.lv37 rfl Try.underlying37 rfl Try.gd37).isF (fun h => h rfl)) ?_ | refine D.evPG 11 rfl (by kernel_rfl) rfl rfl rfl (fun _ => hs.to) (fun _ => (E.neId 10 32 rfl rfl Try.lv37 rfl Try.underlying37 rfl Try.gd37 (by assumption) (by assumption)).isF (fun h => h rfl)) ?_
          refine D.evP 12 rfl (by kernel_rfl) rfl (fun _ => hs.to) (fun _ => E.pickF rfl rfl) ?_
          refine D.done rfl (by kernel_rfl) ?_
          refine X.keep [(3, _), (5, _), (6, _), (7, _), (8, _), (9, _), (11, _), (112, _)] ⟨rfl, rfl, rfl, rfl, rfl, rfl, rfl, rfl, trivial⟩ ?_
          refine X.next ?_
          refine C.cfalse rfl ?_
          refine C.skip ?_
          refine X.blockNormal ?_
          refine X.next ?_
          refine C.region ?_
          refine R.ev rfl (E.move rfl) ?_
          refine R.ev rfl (E.add rfl rfl (by omega) (by omega)) ?_
          refine R.ev rfl (E.assign rfl) ?_
          refine R.done ?_
          refine X.keep [(3, _), (5, _), (6, _), (7, _), (8, _), (9, _), (11, _)] ⟨rfl, rfl, rfl, rfl, rfl, rfl, rfl, trivial⟩ ?_
          exact X.again (k + 1, K8) ⟨rfl, rfl, rfl, rfl, rfl, rfl, rfl, trivial⟩ ⟨by omega, hk9.trans hk8, hs.to⟩ (by show _ - _ < _ - _; omega)
        · refine C.exit ?_
          refine X.thenExit ?_
          refine X.loopExit ?_
          refine X.blockExit ?_
          refine X.next ?_
          refine C.seq ?_
          refine C.region ?_
          refine R.ev rfl (E.move rfl) ?_
          refine R.ev rfl (E.lenSl rfl Try.underlying40) ?_
          refine R.ev rfl (E.gtr rfl rfl) ?_
          refine R.ev rfl (E.move rfl) ?_
          refine R.split 116 rfl (fun h116 => ?_) (fun h116 => ?_)
          · refine R.gyes rfl rfl ?_
            refine R.ev rfl (E.move rfl) ?_
            refine R.gyes rfl rfl ?_
            refine R.ev rfl (E.loadRowC rfl Try.underlying37 rfl Try.sz37 (by first | exact ⟨hs.ldA, by first | rfl | assumption | exact encV_len _ | exact Enc.len _ | exact len_ub (by assumption)⟩ | exact ⟨hs.ldP rfl, by first | rfl | assumption | exact encV_len _ | exact Enc.len _ | exact len_ub (by assumption)⟩ | exact ⟨hs.ldM rfl rfl, by first | rfl | assumption | exact encV_len _ | exact Enc.len _ | exact len_ub (by assumption)⟩ | exact ⟨hs.ldM (by assumption) (by first | rfl | assumption), by first | rfl | assumption | exact encV_len _ | exact Enc.len _ | exact len_ub (by assumption)⟩ | exact ⟨by assumption, by first | rfl | assumption | exact encV_len _ | exact Enc.len _ | exact len_ub (by assumption)⟩ | exact hs.ldp | exact At.partC (by assumption))) ?_
            refine R.gyes rfl rfl ?_
            refine R.call ⟨_, _, Try.func27, rfl, by kernel_rfl⟩ rfl rfl (isWd_any en hI ((hGM.mono hk5).mono (hk57.trans hk9)) hs) ?_
            rintro _ w18 ⟨rfl, hs⟩
            rw [← hend, (hfa.two (by have := of_decide_eq_true h116; omega)).1]
            refine R.gyes rfl rfl ?_
            refine R.ev rfl (E.move rfl) ?_
            refine R.gyes rfl rfl ?_
            refine R.ev rfl (E.move rfl) ?_
            refine R.gyes rfl rfl ?_
            refine R.ev rfl (E.move rfl) ?_
            refine R.gyes rfl rfl ?_
            refine R.ev rfl (E.move rfl) ?_
            refine R.gyes rfl rfl ?_
            refine R.ev rfl (E.indexAddr (i := i) rfl rfl Try.underlying27 Try.sz42 rfl (by omega)) ?_
            refine R.gyes rfl rfl ?_
            first | refine R.ev rfl (E.fieldAddr0 0 rfl Try.underlying42 rfl Try.sz37 rfl) ?_ | refine R.ev rfl (E.fieldAddrN 0 rfl Try.underlying42 rfl Try.sz37 rfl) ?_
            refine R.gyes rfl rfl ?_
            refine R.ev rfl (E.loadRowC rfl Try.underlying37 rfl Try.sz37 (At.partC (Ax _ (hs.less (hk57.trans hk9).le).to))) ?_
            refine R.gyes rfl rfl ?_
            refine R.call ⟨_, _, Try.func27, rfl, by kernel_rfl⟩ rfl rfl (isWd_any x.x.id hI ((hGM.mono hk5).mono (hk57.trans hk9)) hs) ?_
            rintro _ w1814 ⟨rfl, hs⟩
            rw [(hfa.two (by have := of_decide_eq_true h116; omega)).2]
            refine R.gyes rfl rfl ?_
            refine R.ev rfl ((E.not rfl).isB (c := false) rfl) ?_
            refine R.gyes rfl rfl ?_
            refine R.ev rfl (E.pickF rfl rfl) ?_
            refine R.ev rfl (E.pickT rfl rfl) ?_
            refine R.done ?_
            refine X.keep [(3, _), (5, _), (6, _), (7, _), (130, _)] ⟨rfl, rfl, rfl, rfl, rfl, trivial⟩ ?_
            refine X.next ?_
            refine C.cfalse rfl ?_
            refine C.skip ?_
            refine X.blockNormal ?_
            refine X.next ?_
            refine C.region ?_
            refine R.ev rfl (E.move rfl) ?_
            refine R.ev rfl (E.add rfl rfl (by omega) (by omega)) ?_
            refine R.ev rfl (E.assign rfl) ?_
            refine R.done ?_
            refine X.keep [(3, _), (5, _), (6, _), (7, _)] ⟨rfl, rfl, rfl, rfl, trivial⟩ ?_
            exact X.again (i + 1, K9) ⟨rfl, rfl, rfl, rfl, trivial⟩ ⟨by omega, hk5.trans (hk57.trans hk9), hs.to⟩ (by show _ - _ < _ - _; omega)
          · refine R.gskip rfl rfl rfl ?_
            refine R.gskip rfl rfl rfl ?_
            refine R.gskip rfl rfl rfl ?_
            refine R.gskip rfl rfl rfl ?_
            refine R.gundef rfl rfl ?_
            refine R.gundef rfl rfl ?_
            refine R.gundef rfl rfl ?_
            refine R.gundef rfl rfl ?_
            refine R.gundef rfl rfl ?_
            refine R.gundef rfl rfl ?_
            refine R.gundef rfl rfl ?_
            refine R.gundef rfl rfl ?_
            refine R.gskip rfl rfl rfl ?_
            refine R.ev rfl (E.pickF rfl rfl) ?_
            refine R.done ?_
            refine X.keep [(3, _), (5, _), (6, _), (7, _), (130, _)] ⟨rfl, rfl, rfl, rfl, rfl, trivial⟩ ?_
            refine X.next ?_
            refine C.cfalse rfl ?_
            refine C.skip ?_
            refine X.blockNormal ?_
            refine X.next ?_
            refine C.region ?_
            refine R.ev rfl (E.move rfl) ?_
            refine R.ev rfl (E.add rfl rfl (by omega) (by omega)) ?_
            refine R.ev rfl (E.assign rfl) ?_
            refine R.done ?_
            refine X.keep [(3, _), (5, _), (6, _), (7, _)] ⟨rfl, rfl, rfl, rfl, trivial⟩ ?_
            exact X.again (i + 1, K9) ⟨rfl, rfl, rfl, rfl, trivial⟩ ⟨by omega, hk5.trans (hk57.trans hk9), hs.to⟩ (by show _ - _ < _ - _; omega)
    · refine C.exit ?_
      refine X.thenExit ?_
      refine X.loopExit ?_
      refine X.blockExit ?_
      refine X.next ?_
      refine C.seq ?_
      refine C.region ?_
      refine R.ev rfl (E.assign rfl) ?_
      refine R.done ?_
      refine X.keep [(2, _)] ⟨rfl, trivial⟩ ?_
      refine X.next ?_
      refine C.ret ?_
      refine X.ret1 rfl rfl ?_
      exact ⟨rfl, (hs.less ((hk1.trans hk4).trans hk5).le).mod⟩
  · refine R.gskip rfl rfl rfl ?_
    refine R.ev rfl (E.pickF rfl rfl) ?_
    refine R.done ?_
    refine X.keep [(3, _), (5, _), (6, _), (7, _), (31, _)] ⟨rfl, rfl, rfl, rfl, rfl, trivial⟩ ?_
    refine X.next ?_
    refine C.cfalse rfl ?_
    refine C.exit ?_
    refine X.thenExit ?_
    refine X.loopExit ?_
    refine X.blockExit ?_
    refine X.next ?_
    refine C.seq ?_
    refine C.region ?_
    refine R.ev rfl (E.assign rfl) ?_
    refine R.done ?_
    refine X.keep [(2, _)] ⟨rfl, trivial⟩ ?_
    refine X.next ?_
    refine C.ret ?_
    refine X.ret1 rfl rfl ?_
    exact ⟨rfl, (hs.less ((hk1.trans hk4).trans hk5).le).mod⟩

namespace supersedePaths
open Go.ChangeShapes Go.WideShapes Go.ChangeAt Go.RowKit
open Go.ChangeMaps (open_string shut_string)
set_option linter.unusedVariables false

theorem own : ownKnob Try.prog.godebug = none := by kernel_rfl
theorem laidOut : laidOutB Try.prog = true := by kernel_rfl
set_option maxRecDepth 100000 in
theorem lifted (os : Os) (started : os.Started) (H : Type) (enc : TypeId × Value → H) :
    ReturnsInHanded {} Try.checked os 10 .any (Rows.supersedePathsSpec.pre6 enc Try.prog Try.f10 Rows.supersedePathsRow.domain false) (Rows.supersedePathsSpec.post enc Try.prog Try.f10 false true false false) := by
  refine returnsInHanded_of_change (C := Try.checked) own started (by kernel_rfl) Try.func10
    (ChangeSpec.witness6 (enc := enc) (C := Try.checked) false ⟨#[], #[.slice none 0 0], []⟩ 8 (by kernel_rfl) (by kernel_rfl) (by kernel_rfl) (by kernel_rfl)) ?_
  intro W base args ds gs before hval0 hW hcnd _
  have hval : ∀ (j : Nat) t v, Try.f10.params[j]? = some t → args[j]? = some v → Value.okWide Try.prog W .any base t v := hval0
  have hW' := hW
  obtain ⟨p, q, hA0, hV, rfl, hfz, hnd⟩ := hW
  have hA : DataW.TrodAll enc Try.prog W 0 (fun _ => true) true Try.f10.params.toList args.toList ds p := hA0
  rw [Try.params10] at hA hval
  obtain ⟨v0, vs0, d0, ds0, p0, q0, hargs, rfl, rfl, h0, r0⟩ := trodAll_cons hA
  obtain ⟨rfl, rfl, rfl⟩ := trodAll_nil r0
  obtain rfl : args = #[v0] := by cases args; simp_all
  obtain ⟨rfl, rfl⟩ := trodVars_none hV
  have lt0 : ∀ x ∈ p0, x.block < W.heap.size := by obtain ⟨m, hm⟩ := h0; exact DataW.trod_lt m _ _ _ hm
  have a0 := Eng.argv_of (hval 0 22 v0 rfl rfl) h0
  clear hA0 hval0
  refine Calls.mono (paths_walk W v0 a0) fun e W' ⟨v, he, hv, hm⟩ => ?_
  subst he
  subst hv
  have bel := hm.below
  exact ⟨_, rfl, _, _, _, [], _, [], hW', trodAll_mk1 (shut_bool Try.underlying4 _), (trodAll_cons_mk (Below.trod laidOut (by kernel_rfl) (of_decide_eq_true (by kernel_rfl)) h0 bel lt0) trodAll_mk0), rfl, bel.frame _, fun h => by cases h⟩

theorem over : Rows.supersedePathsRow.holds Try.pinned (OpenSpec.ofChange Rows.supersedePathsSpec) :=
  OpenClaim.holds_of_wide 10 Try.f10 rfl rfl rfl rfl rfl rfl rfl ⟨rfl, rfl, rfl, rfl, rfl⟩ rfl rfl rfl rfl rfl (by kernel_rfl) Try.func10 (by kernel_rfl)
    (of_decide_eq_true (by kernel_rfl)) (by unfold Func.isWrapper; first | (rw [if_pos (by decide +kernel)]; kernel_rfl) | (rw [if_neg (by decide +kernel)]; exact ⟨rfl, rfl⟩))
    (fun os started H enc _ => lifted os started H enc)
end supersedePaths
/-- the statement -/
theorem supersedePaths_holds : Rows.SupersedePathsSaid := supersedePaths.over
#print axioms supersedePaths_holds
end Go.Proofs.Ytmjmichghfepkaa
