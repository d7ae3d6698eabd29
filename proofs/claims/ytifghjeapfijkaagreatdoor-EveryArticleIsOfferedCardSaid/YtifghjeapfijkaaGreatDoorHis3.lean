/-
  package history: the entries in order; the iteration.
-/
import Derived.Test.YtifghjeapfijkaaGreatDoorHSortK
import Derived.Test.YtifghjeapfijkaaGreatDoorHis2
namespace Go.Proofs.YtifghjeapfijkaaGreatDoor.Hist
open Go.Eng Go.RowKit Go.Sort
variable {K : Kn} {Hs Rs : List Hl} {F : Hl} {w : World} {p : Nat} {s : Hi}

def ltH (x y : HEnt) : Bool := ltV x.id y.id
theorem ltH_swo : SWO ltH := ⟨fun x => ltV_swo.irrefl x.id, fun x y z => ltV_swo.trans x.id y.id z.id, fun x y z => ltV_swo.ntrans x.id y.id z.id⟩
theorem bcompare_any (b off cap n b' off' cap' n' : Nat) (l m : List UInt8) (w : World) (hn : l.length = n) (hn' : m.length = n') (h : At w b off (l.map ub)) (h' : At w b' off' (m.map ub)) :
    Ret Tryz.prog 80 #[.slice (some ⟨b, off, none⟩) n cap, .slice (some ⟨b', off', none⟩) n' cap'] w fun v w' => v = .int .i64 (cmpL l m) ∧ w = w' := by
  subst hn hn'
  refine Ret.enter (n := 8) (args := [.slice (some ⟨b, off, none⟩) l.length cap, .slice (some ⟨b', off', none⟩) m.length cap']) Tryz.func80 rfl rfl ?_
  refine C.keep [(0, _), (1, _)] ⟨rfl, rfl, trivial⟩ ?_
  refine C.seq ?_
  refine C.region ?_
  refine R.ev rfl (E.assign rfl) ?_
  refine R.done ?_
  refine X.keep [(0, _), (1, _)] ⟨rfl, rfl, trivial⟩ ?_
  refine X.next ?_
  refine C.seq ?_
  refine C.region ?_
  refine R.ev rfl (E.move rfl) ?_
  refine R.ev rfl (E.move rfl) ?_
  refine R.ev rfl (E.ext ⟨_, Tryz.func97, by kernel_rfl, by kernel_rfl, by kernel_rfl, (by kernel_rfl : Extern.find _ = some Extern.BytealgCompare.compare)⟩ rfl (run_compare h h')) ?_
  refine R.ev rfl (E.assign rfl) ?_
  refine R.done ?_
  refine X.keep [(4, _)] ⟨rfl, trivial⟩ ?_
  refine X.next ?_
  refine C.ret ?_
  refine X.ret1 rfl rfl ?_
  exact ⟨rfl, rfl⟩
theorem cmpIds_any (x y : HEnt) (hs : Sat K w Hs) : Ret Tryz.prog 59 #[evH x, evH y] w fun v w' => v = .int .i64 (cmpL x.id.1 y.id.1) ∧ Sat K w' Hs := by
  refine Ret.enter (n := 10) (args := [evH x, evH y]) Tryz.func59 rfl rfl ?_
  refine C.keep [(0, _), (1, _)] ⟨rfl, rfl, trivial⟩ ?_
  refine C.seq ?_
  refine C.region ?_
  refine R.sboxA hs rfl rfl ?_
  intro b2 w2 hs
  refine R.sboxA hs rfl rfl ?_
  intro b3 w3 hs
  refine R.ev rfl (E.assign rfl) ?_
  refine R.done ?_
  refine X.keep [(2, _), (3, _)] ⟨rfl, rfl, trivial⟩ ?_
  refine X.next ?_
  refine C.seq ?_
  refine C.drawn (SatS hs) ([], [0, 1, 2, 3, 5]) (by kernel_rfl) ?_
  have hs := hs.drew
  first | refine D.evP 0 rfl (by kernel_rfl) rfl (np (by kernel_rfl)) (fun _ => E.fieldAddr0 0 rfl Tryz.underlying50 rfl Tryz.sz45 rfl) ?_ | refine D.evP 0 rfl (by kernel_rfl) rfl (np (by kernel_rfl)) (fun _ => E.fieldAddrN 0 rfl Tryz.underlying50 rfl Tryz.sz45 rfl) ?_
  refine D.evP 1 rfl (by kernel_rfl) rfl (np (by kernel_rfl)) (fun _ => E.sliceA rfl Tryz.underlying45 Tryz.sz5) ?_
  first | refine D.evP 2 rfl (by kernel_rfl) rfl (np (by kernel_rfl)) (fun _ => E.fieldAddr0 0 rfl Tryz.underlying50 rfl Tryz.sz45 rfl) ?_ | refine D.evP 2 rfl (by kernel_rfl) rfl (np (by kernel_rfl)) (fun _ => E.fieldAddrN 0 rfl Tryz.underlying50 rfl Tryz.sz45 rfl) ?_
  refine D.evP 3 rfl (by kernel_rfl) rfl (np (by kernel_rfl)) (fun _ => E.sliceA rfl Tryz.underlying45 Tryz.sz5) ?_
  refine D.act 4 rfl (by kernel_rfl) ?_
  refine R.call ⟨_, _, Tryz.func80, rfl, by kernel_rfl⟩ rfl rfl (bcompare_any b2 0 32 32 b3 0 32 32 x.id.1 y.id.1 _ x.id.2 y.id.2 (hs.ldp (m := 32) (l := encH x)).1 (hs.ldp (m := 32) (l := encH y)).1) ?_
  rintro _ _ ⟨rfl, rfl⟩
  refine D.backT (by kernel_rfl) ?_
  refine D.evP 5 rfl (by kernel_rfl) rfl (np (by kernel_rfl)) (fun _ => E.assign rfl) ?_
  refine D.done rfl (by kernel_rfl) ?_
  refine X.keep [(4, _)] ⟨rfl, trivial⟩ ?_
  refine X.next ?_
  refine C.ret ?_
  refine X.ret1 rfl rfl ?_
  exact ⟨rfl, hs.to⟩
theorem cmpIds_ok : heCmp K Rs 59 [] [] ltH :=
  ⟨⟨_, _, Tryz.func59, rfl, by kernel_rfl⟩, fun x y w1 _ _ hs => (cmpIds_any x y hs).mono fun _ _ ⟨e, m⟩ => ⟨_, e, rfl, m⟩⟩
/-- what holds of a history's map -/
structure HOk (s : Hi) : Prop where
  nd : (s.M.map (·.1)).Nodup
  key : ∀ q ∈ s.M, q.1 = q.2.id
  len : s.M.length ≤ 1048576
theorem ids_nd {M : HMap} (h1 : (M.map (·.1)).Nodup) (h2 : ∀ q ∈ M, q.1 = q.2.id) : ((M.map (·.2)).map HEnt.id).Nodup := by
  have : (M.map (·.2)).map HEnt.id = M.map (·.1) := by
    rw [List.map_map]
    exact List.map_congr_left fun q hq => (h2 q hq).symm
  rw [this]; exact h1
theorem ss_of_sorted {L : List HEnt} (h1 : L.Pairwise (fun x y => ltH y x = false)) (h2 : (L.map HEnt.id).Nodup) : SS ltH L := by
  rw [List.Nodup, List.pairwise_map] at h2
  refine (h1.and h2).imp ?_
  rintro x y ⟨ha, hb⟩
  cases hc : ltH x y with
  | true => rfl
  | false => exact absurd (ltV_tot _ _ hc ha) hb
theorem sorted_any {fid : FuncId} {first cap : List Value} (acc : HEnt → Bool) (hcal : Callable Tryz.prog fid) (hok : HOk s) (hs : Sat K w Hs) [hw : HiIn p s Hs]
    (hacc : ∀ (x : HEnt) (w1 : World) (Hs1 : List Hl), SubF Hs Hs1 → Sat K w1 Hs1 → Ret Tryz.prog fid (first ++ [evH x] ++ cap).toArray w1 fun r w' => r = .bool (acc x) ∧ Sat K w' Hs1) :
    Ret Tryz.prog 34 #[ptr p, .func (.func fid) first.toArray cap.toArray] w fun r w' => ∃ L' F', RowL 50 encH 36 r L' F' ∧ SS ltH L' ∧ (∀ x, x ∈ L' ↔ x ∈ s.M.map (·.2) ∧ acc x = true) ∧ L'.length ≤ 1048576 ∧ Sat K w' (F' :: Hs) := by
  obtain ⟨m, G, _, hm, hG⟩ := hw.ex
  obtain ⟨b, es, clock, rfl, rfl, hr⟩ := hm.ex
  have hb : InH b (.map es clock) Hs := ⟨hG.sub _ (by simp)⟩
  have hlen := hok.len
  refine Ret.enter (n := 29) (args := [ptr p, .func (.func fid) first.toArray cap.toArray]) Tryz.func34 rfl rfl ?_
  refine C.keep [(0, _), (1, _)] ⟨rfl, rfl, trivial⟩ ?_
  refine C.seq ?_
  refine C.region ?_
  refine R.ev rfl (E.assign rfl) ?_
  refine R.done ?_
  refine X.keep [(0, _), (1, _)] ⟨rfl, rfl, trivial⟩ ?_
  refine X.next ?_
  refine C.seq ?_
  refine C.seq ?_
  refine C.region ?_
  refine R.ev rfl (E.move rfl) ?_
  refine R.ev rfl (E.eqlNilF rfl rfl Tryz.underlying36) ?_
  refine R.done ?_
  refine X.keep [(0, _), (1, _), (9, _)] ⟨rfl, rfl, rfl, trivial⟩ ?_
  refine X.next ?_
  refine C.cfalse rfl ?_
  refine C.skip ?_
  refine X.next ?_
  refine C.seq ?_
  refine C.region ?_
  refine R.ev rfl (E.assign rfl) ?_
  refine R.done ?_
  refine X.keep [(0, _), (1, _), (5, _)] ⟨rfl, rfl, rfl, trivial⟩ ?_
  refine X.next ?_
  refine C.seq ?_
  refine C.seq ?_
  refine C.region ?_
  refine R.ev rfl (E.move rfl) ?_
  refine R.ev rfl (E.nilCheck rfl) ?_
  first | refine R.ev rfl (E.fieldAddr0 0 rfl Tryz.underlying82 rfl Tryz.sz80 rfl) ?_ | refine R.ev rfl (E.fieldAddrN 0 rfl Tryz.underlying82 rfl Tryz.sz80 rfl) ?_
  refine R.ev rfl (E.load1 rfl Tryz.underlying80 rfl (by first | exact hs.ldc | exact hs.ld rfl | exact hs.ld (by assumption) | exact by assumption | exact At.cellC (by assumption) | exact hs.ldK rfl)) ?_
  refine R.crange hs rfl Tryz.underlying80 (hr) rfl ?_
  intro r14 w14 F14 it14 hs
  refine R.done ?_
  refine X.keep [(1, _), (5, _), (14, _)] ⟨rfl, rfl, rfl, trivial⟩ ?_
  refine X.next ?_
  refine C.block ?_
  refine C.loop (T := HMap × HMap × Hl × Value × Hl) [(1, _), (14, _)] (fun (_, _, _, v, _) => [(5, v)]) (fun (Lr, Ls, Fi, v, F1) w' => ItP ekI evH r14 b es clock Lr Fi ∧ (Ls ++ Lr).Perm s.M ∧ RowL 50 encH 36 v ((Ls.map (·.2)).filter acc) F1 ∧ Sat K w' (F1 :: Fi :: Hs)) (fun (Lr, _) => Lr.length) ((s.M, [], F14, .slice none 0 0, [])) ⟨rfl, rfl, rfl, trivial⟩ ⟨it14, by simp, RowL.nil _ _ _, hs.nil⟩ ?_
  rintro ⟨Lr, Ls, Fi, v, F1⟩ w1 ⟨hit, hpm, r1, hs⟩
  have hle : ((Ls.map (·.2)).filter acc).length + Lr.length ≤ 1048576 := by
    have h1 := List.length_filter_le acc (Ls.map (·.2))
    have h2 := hpm.length_eq
    simp at h1 h2; omega
  refine C.keep [(1, _), (5, _), (14, _)] ⟨rfl, rfl, rfl, trivial⟩ ?_
  refine C.seq ?_
  refine C.region ?_
  refine R.cnext hs rfl (hr) (hit) rfl ?_ ?_
  · intro hover
    refine R.ev rfl (E.extract rfl rfl) ?_
    refine R.done ?_
    refine X.keep [(1, _), (5, _), (14, _), (16, _)] ⟨rfl, rfl, rfl, rfl, trivial⟩ ?_
    refine X.next ?_
    refine C.seq ?_
    refine C.cfalse rfl ?_
    refine C.exit ?_
    refine X.thenExit ?_
    refine X.loopExit ?_
    refine X.blockExit ?_
    refine X.next ?_
    refine C.seq ?_
    refine C.region ?_
    rw [hover, List.append_nil] at hpm
    refine R.ev rfl (E.move rfl) ?_
    refine R.call ⟨_, _, Tryz.func58, rfl, by kernel_rfl⟩ rfl rfl (hesort_any cmpIds_ok ltH_swo (hs.front (F := F1)) (by omega)) ?_
    rintro _ w9 ⟨L2, F2, r2, hp2, hso, hs1⟩
    have hs := hs.back (F := F1) hs1
    refine R.done ?_
    refine X.keep [(5, _)] ⟨rfl, trivial⟩ ?_
    refine X.next ?_
    refine C.seq ?_
    refine C.region ?_
    refine R.ev rfl (E.move rfl) ?_
    refine R.ev rfl (E.assign rfl) ?_
    refine R.done ?_
    refine X.keep [(4, _)] ⟨rfl, trivial⟩ ?_
    refine X.next ?_
    refine C.ret ?_
    refine X.ret1 rfl rfl ?_
    have hmem : ∀ x, x ∈ L2 ↔ x ∈ s.M.map (·.2) ∧ acc x = true := fun x => by
      rw [hp2.mem_iff, List.mem_filter, (hpm.map (·.2)).mem_iff]
    have hnd : (L2.map HEnt.id).Nodup := by
      rw [(hp2.map HEnt.id).nodup_iff]
      refine List.Nodup.sublist (List.filter_sublist.map _) ?_
      rw [((hpm.map (·.2)).map HEnt.id).nodup_iff]
      exact ids_nd hok.nd hok.key
    exact ⟨L2, F2, r2, ss_of_sorted hso hnd, hmem, by have := hp2.length_eq; omega, hs.to⟩
  · intro p15 L15 w15 F15 pm15 mm15 it15 hs hent
    have hL0 := pm15.length_eq
    simp only [List.length_cons] at hL0
    have hpm2 : ((Ls ++ [p15]) ++ L15).Perm s.M := by
      refine List.Perm.trans ?_ hpm
      rw [List.append_assoc]
      exact List.Perm.append_left _ pm15.symm
    refine R.ev rfl (E.extract rfl rfl) ?_
    refine R.done ?_
    refine X.keep [(1, _), (5, _), (14, _), (16, _)] ⟨rfl, rfl, rfl, rfl, trivial⟩ ?_
    refine X.next ?_
    refine C.seq ?_
    refine C.ctrue rfl ?_
    refine C.skip ?_
    refine X.next ?_
    refine C.block ?_
    refine C.seq ?_
    refine C.region ?_
    refine R.ev rfl (E.entryC rfl (hent _ hs)) ?_
    refine R.ev rfl (E.extract rfl rfl) ?_
    refine R.sallocA hs Tryz.zr50 rfl ?_
    intro b7 w7 hs
    first | refine R.cstoreAll hs rfl rfl Tryz.sz50 (by first | rfl | assumption | exact encV_len _ | exact Enc.len _ | exact len_ub (by assumption) | simp [*]) (by first | rfl | assumption | exact encV_len _ | exact Enc.len _ | exact len_ub (by assumption) | simp [*]) (by first | assumption | exact OneL.all | exact Enc.one _ | exact ub_all _ | (repeat' (first | refine List.forall_mem_cons.2 ⟨?_, ?_⟩ | exact List.forall_mem_nil _ | rfl | exact OneC.one | exact KRow.oneC' (by assumption)))) ?_ | refine R.cstore hs rfl rfl Tryz.sz50 (by first | rfl | assumption | exact encV_len _ | exact Enc.len _ | exact len_ub (by assumption) | simp [*]) (by simp [*]) (by first | assumption | exact OneL.all | exact Enc.one _ | exact ub_all _ | (repeat' (first | refine List.forall_mem_cons.2 ⟨?_, ?_⟩ | exact List.forall_mem_nil _ | rfl | exact OneC.one | exact KRow.oneC' (by assumption)))) ?_
    intro w6_3 hs
    try simp only [List.set_cons_zero, List.set_cons_succ] at hs
    refine R.done ?_
    refine X.keep [(1, _), (5, _), (7, _), (14, _)] ⟨rfl, rfl, rfl, rfl, trivial⟩ ?_
    refine X.next ?_
    refine C.seq ?_
    refine C.region ?_
    refine R.ev rfl (E.move rfl) ?_
    refine R.ev rfl (E.loadRowC rfl Tryz.underlying50 rfl Tryz.sz50 (by first | exact ⟨hs.ldA, by first | rfl | assumption | exact encV_len _ | exact Enc.len _ | exact len_ub (by assumption)⟩ | exact ⟨hs.ldP rfl, by first | rfl | assumption | exact encV_len _ | exact Enc.len _ | exact len_ub (by assumption)⟩ | exact ⟨hs.ldM rfl rfl, by first | rfl | assumption | exact encV_len _ | exact Enc.len _ | exact len_ub (by assumption)⟩ | exact ⟨hs.ldM (by assumption) (by first | rfl | assumption), by first | rfl | assumption | exact encV_len _ | exact Enc.len _ | exact len_ub (by assumption)⟩ | exact ⟨by assumption, by first | rfl | assumption | exact encV_len _ | exact Enc.len _ | exact len_ub (by assumption)⟩ | exact hs.ldp | exact At.partC (by assumption))) ?_
    refine R.callV hcal rfl rfl rfl (hacc p15.2 _ _ (fun q hq => by simp only [List.flatten_cons, List.mem_append]; exact .inr (.inr (.inr hq))) hs) ?_
    rintro _ w7 ⟨rfl, hs⟩
    refine R.done ?_
    refine X.keep [(1, _), (5, _), (7, _), (14, _), (21, _)] ⟨rfl, rfl, rfl, rfl, rfl, trivial⟩ ?_
    refine X.next ?_
    refine C.cbool rfl (fun h21 => ?_) (fun h21 => ?_)
    · refine C.region ?_
      refine R.ev rfl (E.move rfl) ?_
      refine R.ev rfl (E.loadRowC rfl Tryz.underlying50 rfl Tryz.sz50 (by first | exact ⟨hs.ldA, by first | rfl | assumption | exact encV_len _ | exact Enc.len _ | exact len_ub (by assumption)⟩ | exact ⟨hs.ldP rfl, by first | rfl | assumption | exact encV_len _ | exact Enc.len _ | exact len_ub (by assumption)⟩ | exact ⟨hs.ldM rfl rfl, by first | rfl | assumption | exact encV_len _ | exact Enc.len _ | exact len_ub (by assumption)⟩ | exact ⟨hs.ldM (by assumption) (by first | rfl | assumption), by first | rfl | assumption | exact encV_len _ | exact Enc.len _ | exact len_ub (by assumption)⟩ | exact ⟨by assumption, by first | rfl | assumption | exact encV_len _ | exact Enc.len _ | exact len_ub (by assumption)⟩ | exact hs.ldp | exact At.partC (by assumption))) ?_
      refine R.buildSliceA rfl Tryz.underlying88 Tryz.sz50 Tryz.zr50 rfl (by first | rfl | assumption | exact encV_len _ | exact Enc.len _ | simp [*]) (by decide) (by decide) ?_
      intro b24 w24 n24
      have hs := hs.new n24
      refine R.capp1 (p15.2) hs rfl rfl Tryz.underlying88 Tryz.by50 (by rfl) rfl (by first | exact hs.ldA | exact hs.ldP rfl | exact by assumption) (by decide) (by first | omega | (simp only [List.length_append, List.length_cons, List.length_nil] at *; omega)) (by first | omega | (simp only [List.length_append, List.length_cons, List.length_nil] at *; omega)) ?_
      intro v25 w25 F25 r25 hs
      refine R.ev rfl (E.assign rfl) ?_
      refine R.done ?_
      refine X.keep [(1, _), (5, _), (14, _)] ⟨rfl, rfl, rfl, trivial⟩ ?_
      refine X.blockNormal ?_
      first
        | exact X.again (L15, Ls ++ [p15], F15, v25, F25) ⟨rfl, rfl, rfl, trivial⟩ ⟨it15, hpm2, by rw [List.map_append, List.filter_append]; simpa [h21] using r25, hs.to⟩ (by show L15.length < Lr.length; omega)
        | exact X.again (L15, Ls ++ [p15], F15, v, F1) ⟨rfl, rfl, rfl, trivial⟩ ⟨it15, hpm2, by rw [List.map_append, List.filter_append]; simpa [h21] using r1, hs.to⟩ (by show L15.length < Lr.length; omega)
    · refine C.skip ?_
      refine X.blockNormal ?_
      first
        | exact X.again (L15, Ls ++ [p15], F15, v25, F25) ⟨rfl, rfl, rfl, trivial⟩ ⟨it15, hpm2, by rw [List.map_append, List.filter_append]; simpa [h21] using r25, hs.to⟩ (by show L15.length < Lr.length; omega)
        | exact X.again (L15, Ls ++ [p15], F15, v, F1) ⟨rfl, rfl, rfl, trivial⟩ ⟨it15, hpm2, by rw [List.map_append, List.filter_append]; simpa [h21] using r1, hs.to⟩ (by show L15.length < Lr.length; omega)
end Go.Proofs.YtifghjeapfijkaaGreatDoor.Hist
