/-
  Chapter 41: Clone, successors, Path, Successors, End.
-/
import Derived.Test.YtmjmichghfepkaaSupT
import Derived.Test.YtmjmichghfepkaaRSortK
import Derived.Test.YtmjmichghfepkaaRng
namespace Go.Eng
theorem InH.sub {b : Nat} {o : Obj} {Hs Gs : List Hl} (h : InH b o Hs) (k : SubF Hs Gs) : InH b o Gs := ⟨k _ h.mem⟩
theorem runO_all {σ α : Type} {step : σ → α → σ} {ok : σ → Bool} (h : ∀ s a, ok (step s a) = true) : ∀ (L : List α) (s : σ), runO step ok s L = L.foldl step s
  | [], _ => rfl
  | a :: L, s => by rw [runO, if_pos (h s a), List.foldl_cons]; exact runO_all h L _
theorem runO_at {σ α : Type} {step : σ → α → σ} {ok : σ → Bool} {s0 s1 : σ} {L : List α} {k : Nat} {y : α} (h : runO step ok s0 L = runO step ok s1 (L.drop k)) (hy : L[k]? = some y) :
    (ok (step s1 y) = true → runO step ok s0 L = runO step ok (step s1 y) (L.drop (k + 1))) ∧ (ok (step s1 y) = false → runO step ok s0 L = step s1 y) := by
  obtain ⟨h1, h2⟩ := List.getElem?_eq_some_iff.1 hy
  rw [List.drop_eq_getElem_cons h1, h2, runO] at h
  exact ⟨fun hg => by rw [h, if_pos hg], fun hg => by rw [h, if_neg (by rw [hg]; decide)]⟩
theorem split_at {α : Type} {L : List α} {k : Nat} {y : α} (h : L[k]? = some y) : L = L.take k ++ y :: L.drop (k + 1) := by
  obtain ⟨h1, h2⟩ := List.getElem?_eq_some_iff.1 h
  have := List.take_append_drop k L
  rw [List.drop_eq_getElem_cons h1, h2] at this
  exact this.symm
theorem runO_end {σ α : Type} {step : σ → α → σ} {ok : σ → Bool} {s0 s1 : σ} {L : List α} {k : Nat} {Pc : σ → Hl → Prop} {F : Hl} (hp : Pc s1 F) (h : runO step ok s0 L = runO step ok s1 (L.drop k)) (hk : L.length ≤ k) : Pc (runO step ok s0 L) F := by
  rw [h, List.drop_eq_nil_of_le hk]; exact hp
theorem foldl_snoc {α : Type} (L l : List α) : L.foldl (fun l x => l ++ [x]) l = l ++ L := by
  induction L generalizing l with
  | nil => simp
  | cons x L ih => rw [List.foldl_cons, ih]; simp
end Go.Eng
namespace Go.Proofs.Ytmjmichghfepkaa
open Go.Eng Go.RowKit Go.Sort
variable {K : Kn} {Hs Rs : List Hl} {F : Hl} {w : World} {v : Value} {L : List RR} {p : Nat} {M : SMap}
theorem clone_any (hI : SInv M L) (hG : GAll K M) (hl : L.length ≤ 4096) (hs : Sat K w Hs) [hw : SuIn p M Hs] : Ret Try.prog 30 #[ptr p] w fun r w' => ∃ K' q M' L' F', r = ptr q ∧ KLe K K' ∧ L'.Perm L ∧ SInv M' L' ∧ GAll K' M' ∧ SuL q M' F' ∧ Sat K' w' (F' :: Hs) := by
  obtain ⟨m, G, _, hm, hGi⟩ := hw.ex
  obtain ⟨b, es, clock, rfl, rfl, hr⟩ := hm.ex
  have hb : InH b (.map es clock) Hs := ⟨hGi.sub _ (by simp)⟩
  refine Ret.enter (n := 27) (args := [ptr p]) Try.func30 rfl rfl ?_
  refine C.keep [(0, _)] ⟨rfl, trivial⟩ ?_
  refine C.seq ?_
  refine C.region ?_
  refine R.ev rfl (E.assign rfl) ?_
  refine R.done ?_
  refine X.keep [(0, _)] ⟨rfl, trivial⟩ ?_
  refine X.next ?_
  refine C.seq ?_
  refine C.seq ?_
  refine C.region ?_
  refine R.ev rfl (E.move rfl) ?_
  refine R.ev rfl (E.eqlNilF rfl rfl Try.underlying54) ?_
  refine R.done ?_
  refine X.keep [(0, _), (7, _)] ⟨rfl, rfl, trivial⟩ ?_
  refine X.next ?_
  refine C.cfalse rfl ?_
  refine C.skip ?_
  refine X.next ?_
  refine C.seq ?_
  refine C.region ?_
  refine R.call ⟨_, _, Try.func48, rfl, by kernel_rfl⟩ rfl rfl (new_any hs) ?_
  rintro _ w3 ⟨q, F3, rfl, hw3, hs⟩
  obtain ⟨m3, G3, hF3, hm3⟩ := hw3.ex
  subst hF3
  have hs := hs.cut
  refine R.ev rfl (E.assign rfl) ?_
  refine R.done ?_
  refine X.keep [(0, _), (3, _)] ⟨rfl, rfl, trivial⟩ ?_
  refine X.next ?_
  refine C.seq ?_
  refine C.seq ?_
  refine C.region ?_
  refine R.ev rfl (E.move rfl) ?_
  refine R.ev rfl (E.nilCheck rfl) ?_
  refine R.ev rfl (E.fieldAddr0 0 rfl Try.underlying84 rfl Try.sz82 rfl) ?_
  refine R.ev rfl (E.load1 rfl Try.underlying82 rfl (by exact hs.ld rfl)) ?_
  refine R.crange hs rfl Try.underlying82 (hr) rfl ?_
  intro r13 w13 F13 it13 hs
  refine R.done ?_
  refine X.keep [(3, _), (13, _)] ⟨rfl, rfl, trivial⟩ ?_
  refine X.next ?_
  refine C.block ?_
  refine C.loop (T := SMap × SMap × Kn × SMap × Hl × Hl) [(3, _), (13, _)] (fun _ => []) (fun (Lr, Ls, K1, Md, Fi, Gd) w' => ItP ekI evA r13 b es clock Lr Fi ∧ (Ls ++ Lr).Perm M ∧ KLe K K1 ∧ SInv Md (Ls.map fun z => z.2.x) ∧ GAll K1 Md ∧ MapL ekI evA m3 Md Gd ∧ Sat K1 w' (Fi :: row q 84 [m3] :: Gd :: Hs)) (fun (Lr, _) => Lr.length) ((M, [], K, [], F13, G3)) ⟨rfl, rfl, trivial⟩ ⟨it13, by simp, KLe.refl K, SInv.nil, (fun _ h => nomatch h), hm3, hs.to⟩ ?_
  rintro ⟨Lr, Ls, K1, Md, Fi, Gd⟩ w4 ⟨hit, hpm, hk1, hId, hGd, hmd, hs⟩
  refine C.keep [(3, _), (13, _)] ⟨rfl, rfl, trivial⟩ ?_
  refine C.seq ?_
  refine C.region ?_
  refine R.cnext hs rfl (hr) (hit) rfl ?_ ?_
  intro hover
  refine R.ev rfl (E.extract rfl rfl) ?_
  refine R.done ?_
  refine X.keep [(3, _), (13, _), (15, _)] ⟨rfl, rfl, rfl, trivial⟩ ?_
  refine X.next ?_
  refine C.seq ?_
  refine C.cfalse rfl ?_
  refine C.exit ?_
  refine X.thenExit ?_
  refine X.loopExit ?_
  refine X.blockExit ?_
  refine X.next ?_
  refine C.seq ?_
  refine C.region ?_
  refine R.ev rfl (E.move rfl) ?_
  refine R.ev rfl (E.assign rfl) ?_
  refine R.done ?_
  refine X.keep [(2, _)] ⟨rfl, trivial⟩ ?_
  refine X.next ?_
  refine C.ret ?_
  refine X.ret1 rfl rfl ?_
  rw [hover, List.append_nil] at hpm
  exact ⟨K1, q, Md, _, _, rfl, hk1, by have := hpm.map fun z => z.2.x; rwa [hI.xs] at this, hId, hGd, SuL.mk' hmd, hs.to⟩
  intro p14 L14 w14 F14 pm14 mm14 it14 hs hent
  have hpM : p14 ∈ M := hpm.subset (List.mem_append_right _ mm14)
  have hgp : GOk K1 p14.2 := (hG _ hpM).mono hk1
  obtain ⟨hkey, hpL⟩ := hI.key hpM
  have hpm2 : ((Ls ++ [p14]) ++ L14).Perm M := by
    refine List.Perm.trans ?_ hpm
    rw [List.append_assoc]
    exact List.Perm.append_left _ pm14.symm
  have hnh : hasId p14.2.x.id (Ls.map fun z => z.2.x) = false := by
    rw [hasId_false]
    intro hc
    have h0 : ((M.map fun z => z.2.x).map RR.id).Nodup := by rw [hI.xs]; exact hI.nd
    have h1 := ((hpm2.map fun z => z.2.x).map RR.id).nodup_iff.2 h0
    rw [List.map_append, List.map_append, List.map_append, List.map_append, List.nodup_append] at h1
    have h2 := h1.1
    rw [List.nodup_append] at h2
    exact h2.2.2 _ hc _ (by simp) rfl
  refine R.ev rfl (E.extract rfl rfl) ?_
  refine R.done ?_
  refine X.keep [(3, _), (13, _), (15, _)] ⟨rfl, rfl, rfl, trivial⟩ ?_
  refine X.next ?_
  refine C.seq ?_
  refine C.ctrue rfl ?_
  refine C.skip ?_
  refine X.next ?_
  refine C.block ?_
  refine C.seq ?_
  refine C.region ?_
  refine R.ev rfl (E.entryC rfl (hent _ hs)) ?_
  refine R.ev rfl (E.extract rfl rfl) ?_
  refine R.ev rfl (E.extract rfl rfl) ?_
  refine R.sallocA hs Try.zr37 rfl ?_
  intro b4 w4 hs
  refine R.sallocA hs Try.zr42 rfl ?_
  intro b5 w5 hs
  refine R.cstoreAll hs rfl rfl Try.sz37 (by rfl) (by exact encV_len _) (by exact OneL.all) ?_
  intro w6_5 hs
  try simp only [List.set_cons_zero, List.set_cons_succ] at hs
  refine R.cstoreAll hs rfl rfl Try.sz42 (by rfl) (by exact Enc.len _) (by exact Enc.one _) ?_
  intro w6_6 hs
  try simp only [List.set_cons_zero, List.set_cons_succ] at hs
  refine R.done ?_
  refine X.keep [(3, _), (4, _), (5, _), (13, _)] ⟨rfl, rfl, rfl, rfl, trivial⟩ ?_
  refine X.next ?_
  refine C.drawn (SatS hs) ([3, 4, 5], [0, 1, 2]) (by kernel_rfl) ?_
  have hs := hs.drew
  refine D.evP 0 rfl (by kernel_rfl) rfl (fun _ => hs.to) (fun _ => E.move rfl) ?_
  refine D.evP 1 rfl (by kernel_rfl) rfl (fun _ => hs.to) (fun _ => E.nilCheck rfl) ?_
  refine D.evP 2 rfl (by kernel_rfl) rfl (fun _ => hs.to) (fun _ => E.fieldAddr0 0 rfl Try.underlying84 rfl Try.sz82 rfl) ?_
  refine D.ev 3 rfl (by kernel_rfl) rfl hs.to (fun _ hS => E.load1 rfl Try.underlying82 rfl (by exact hS.ld rfl)) ?_
  refine D.ev 4 rfl (by kernel_rfl) rfl hs.to (fun _ hS => E.loadRowC rfl Try.underlying37 rfl Try.sz37 (by exact ⟨hS.ldA, by exact encV_len _⟩)) ?_
  refine D.ev 5 rfl (by kernel_rfl) rfl hs.to (fun _ hS => E.loadRowC rfl Try.underlying42 rfl Try.sz42 (by exact ⟨hS.ldA, by exact Enc.len _⟩)) ?_
  refine D.act 6 rfl (by kernel_rfl) ?_
  refine R.call ⟨_, _, Try.func51, rfl, by kernel_rfl⟩ rfl rfl (cloneRow_any hgp hs) ?_
  rintro _ w7 ⟨K7, z, rfl, hzx, hk7, hgz, hs⟩
  refine D.back (hs.less hk7.le).to ?_
  refine D.act 7 rfl (by kernel_rfl) ?_
  refine R.cput (p14.1) (z) hs rfl rfl rfl Try.underlying82 (by rfl) (by rfl) ?_
  intro w7_7 F7_7 m7_7 hs
  refine D.backT (by kernel_rfl) ?_
  refine D.done rfl (by kernel_rfl) ?_
  refine X.keep [(3, _), (13, _)] ⟨rfl, rfl, trivial⟩ ?_
  refine X.blockNormal ?_
  have hA := hId.add (y := z) (by rw [hzx]; exact hnh) (by rw [hzx]; exact hI.ok _ hpL)
  have hP := (hGd.mono hk7).put (y := z) (by rw [hId.keys, hzx]; exact hasId_false.1 hnh) hgz
  rw [hzx] at hA hP
  rw [hkey] at m7_7
  exact X.again (L14, Ls ++ [p14], K7, _, F14, F7_7) ⟨rfl, rfl, trivial⟩ ⟨it14, hpm2, hk1.trans hk7, by rw [List.map_append]; exact hA, hP, m7_7, hs.to⟩ (by show L14.length < Lr.length; rw [pm14.length_eq]; simp)
theorem succ_any {x : RA} {a : Vec 32} (hx : lkM M a = some x) (hI : SInv M L) (hG : GAll K M) (hl : L.length ≤ 4096) (hs : Sat K w Hs) [hw : SuIn p M Hs] : Ret Try.prog 52 #[ptr p, idV a.1] w fun r w' => ∃ Z F', RowL 42 encA 83 r Z F' ∧ (Z.map RA.x).Perm (succs L x.x) ∧ (∀ z ∈ Z, lkM M z.x.id = some z) ∧ Sat K w' (F' :: Hs) := by
  obtain ⟨m, G, _, hm, hGi⟩ := hw.ex
  obtain ⟨b, es, clock, rfl, rfl, hr⟩ := hm.ex
  have hb : InH b (.map es clock) Hs := ⟨hGi.sub _ (by simp)⟩
  have e1 := encV_len a
  have hgx : GOk K x := hG _ (lkM_mem hx)
  have hlen := hI.len
  refine Ret.enter (n := 32) (args := [ptr p, idV a.1]) Try.func52 rfl rfl ?_
  refine C.keep [(0, _), (1, _)] ⟨rfl, rfl, trivial⟩ ?_
  refine C.seq ?_
  refine C.region ?_
  refine R.sboxA hs rfl rfl ?_
  intro b3 w3 hs
  refine R.ev rfl (E.assign rfl) ?_
  refine R.done ?_
  refine X.keep [(0, _), (3, _)] ⟨rfl, rfl, trivial⟩ ?_
  refine X.next ?_
  refine C.seq ?_
  refine C.drawn (SatS hs) ([3, 4, 5], [0, 1, 2]) (by kernel_rfl) ?_
  have hs := hs.drew
  refine D.evP 0 rfl (by kernel_rfl) rfl (fun _ => hs.to) (fun _ => E.move rfl) ?_
  refine D.evP 1 rfl (by kernel_rfl) rfl (fun _ => hs.to) (fun _ => E.nilCheck rfl) ?_
  refine D.evP 2 rfl (by kernel_rfl) rfl (fun _ => hs.to) (fun _ => E.fieldAddr0 0 rfl Try.underlying84 rfl Try.sz82 rfl) ?_
  refine D.ev 3 rfl (by kernel_rfl) rfl hs.to (fun _ hS => E.load1 rfl Try.underlying82 rfl (by exact hS.ld rfl)) ?_
  refine D.ev 4 rfl (by kernel_rfl) rfl hs.to (fun _ hS => E.loadRowC rfl Try.underlying37 rfl Try.sz37 (by exact ⟨hS.ldA, by assumption⟩)) ?_
  refine D.ev 5 rfl (by kernel_rfl) rfl hs.to (fun _ hS => (E.lookupD hS rfl rfl Try.underlying82 a (by rfl)).as (u := evA x) (by rw [hx]; rfl)) ?_
  refine D.act 6 rfl (by kernel_rfl) ?_
  refine R.sallocA hs Try.zr42 rfl ?_
  intro b5 w5 hs
  refine D.back hs.to ?_
  refine D.act 7 rfl (by kernel_rfl) ?_
  refine R.cstoreAll hs rfl rfl Try.sz42 (by rfl) (by exact Enc.len _) (by exact Enc.one _) ?_
  intro w1_7 hs
  try simp only [List.set_cons_zero, List.set_cons_succ] at hs
  refine D.backT (by kernel_rfl) ?_
  refine D.done rfl (by kernel_rfl) ?_
  refine X.keep [(0, _), (5, _)] ⟨rfl, rfl, trivial⟩ ?_
  refine X.next ?_
  refine C.seq ?_
  refine C.region ?_
  refine R.ev rfl (E.assign rfl) ?_
  refine R.done ?_
  refine X.keep [(0, _), (5, _), (6, _)] ⟨rfl, rfl, rfl, trivial⟩ ?_
  refine X.next ?_
  refine C.seq ?_
  refine C.seq ?_
  refine C.region ?_
  refine R.ev rfl (E.move rfl) ?_
  refine R.ev rfl (E.nilCheck rfl) ?_
  refine R.ev rfl (E.fieldAddr0 0 rfl Try.underlying84 rfl Try.sz82 rfl) ?_
  refine R.ev rfl (E.load1 rfl Try.underlying82 rfl (by exact hs.ld rfl)) ?_
  refine R.crange hs rfl Try.underlying82 (hr) rfl ?_
  intro r19 w19 F19 it19 hs
  refine R.done ?_
  refine X.keep [(5, _), (6, _), (19, _)] ⟨rfl, rfl, rfl, trivial⟩ ?_
  refine X.next ?_
  refine C.block ?_
  refine C.loop (T := SMap × SMap × Hl × Value × Hl) [(5, _), (19, _)] (fun (_, _, _, v, _) => [(6, v)]) (fun (Lr, Ls, Fi, v, F1) w' => ItP ekI evA r19 b es clock Lr Fi ∧ (Ls ++ Lr).Perm M ∧ RowL 42 encA 83 v ((Ls.filter fun z => valid x.x z.2.x).map (·.2)) F1 ∧ Sat K w' (F1 :: Fi :: row b5 42 (encA x) :: Hs)) (fun (Lr, _) => Lr.length) ((M, [], F19, .slice none 0 0, [])) ⟨rfl, rfl, rfl, trivial⟩ ⟨it19, by simp, RowL.nil _ _ _, hs.nil.to⟩ ?_
  rintro ⟨Lr, Ls, Fi, v1, F1⟩ w4 ⟨hit, hpm, r1, hs⟩
  have hle : ((Ls.filter fun z => valid x.x z.2.x).map (·.2)).length + Lr.length ≤ 4096 := by
    have h1 := List.length_filter_le (fun z : Vec 32 × RA => valid x.x z.2.x) Ls
    have h2 := hpm.length_eq
    rw [List.length_map]; simp at h2; omega
  refine C.keep [(5, _), (6, _), (19, _)] ⟨rfl, rfl, rfl, trivial⟩ ?_
  refine C.seq ?_
  refine C.region ?_
  refine R.cnext hs rfl (hr) (hit) rfl ?_ ?_
  intro hover
  refine R.ev rfl (E.extract rfl rfl) ?_
  refine R.done ?_
  refine X.keep [(5, _), (6, _), (19, _), (21, _)] ⟨rfl, rfl, rfl, rfl, trivial⟩ ?_
  refine X.next ?_
  refine C.seq ?_
  refine C.cfalse rfl ?_
  refine C.exit ?_
  refine X.thenExit ?_
  refine X.loopExit ?_
  refine X.blockExit ?_
  refine X.next ?_
  refine C.seq ?_
  refine C.region ?_
  refine R.ev rfl (E.move rfl) ?_
  refine R.ev rfl (E.assign rfl) ?_
  refine R.done ?_
  refine X.keep [(4, _)] ⟨rfl, trivial⟩ ?_
  refine X.next ?_
  refine C.ret ?_
  refine X.ret1 rfl rfl ?_
  rw [hover, List.append_nil] at hpm
  refine ⟨_, F1, r1, ?_, ?_, hs.to⟩
  · have h1 : ((Ls.filter fun z => valid x.x z.2.x).map (·.2)).map RA.x = (Ls.map fun z => z.2.x).filter (valid x.x) := by
      rw [List.map_map, List.filter_map]; rfl
    rw [h1, succs, ← hI.xs]
    exact (hpm.map _).filter _
  · intro z hz
    obtain ⟨u, hu, rfl⟩ := List.mem_map.1 hz
    have huM := hpm.subset (List.mem_filter.1 hu).1
    have := hI.key huM
    rw [← this.1]
    exact lkM_of_mem hI.ndk huM
  intro p20 L20 w20 F20 pm20 mm20 it20 hs hent
  have hpM : p20 ∈ M := hpm.subset (List.mem_append_right _ mm20)
  have hgp : GOk K p20.2 := hG _ hpM
  have hL0 := pm20.length_eq
  simp only [List.length_cons] at hL0
  have hpm2 : ((Ls ++ [p20]) ++ L20).Perm M := by
    refine List.Perm.trans ?_ hpm
    rw [List.append_assoc]
    exact List.Perm.append_left _ pm20.symm
  refine R.ev rfl (E.extract rfl rfl) ?_
  refine R.done ?_
  refine X.keep [(5, _), (6, _), (19, _), (21, _)] ⟨rfl, rfl, rfl, rfl, trivial⟩ ?_
  refine X.next ?_
  refine C.seq ?_
  refine C.ctrue rfl ?_
  refine C.skip ?_
  refine X.next ?_
  refine C.block ?_
  refine C.seq ?_
  refine C.region ?_
  refine R.ev rfl (E.entryC rfl (hent _ hs)) ?_
  refine R.ev rfl (E.extract rfl rfl) ?_
  refine R.sallocA hs Try.zr42 rfl ?_
  intro b8 w8 hs
  refine R.cstoreAll hs rfl rfl Try.sz42 (by rfl) (by exact Enc.len _) (by exact Enc.one _) ?_
  intro w5_3 hs
  try simp only [List.set_cons_zero, List.set_cons_succ] at hs
  refine R.done ?_
  refine X.keep [(5, _), (6, _), (8, _), (19, _)] ⟨rfl, rfl, rfl, rfl, trivial⟩ ?_
  refine X.next ?_
  refine C.seq ?_
  refine C.region ?_
  refine R.ev rfl (E.loadRowC rfl Try.underlying42 rfl Try.sz42 (by exact ⟨hs.ldA, by exact Enc.len _⟩)) ?_
  refine R.ev rfl (E.loadRowC rfl Try.underlying42 rfl Try.sz42 (by exact ⟨hs.ldA, by exact Enc.len _⟩)) ?_
  refine R.call ⟨_, _, Try.func17, rfl, by kernel_rfl⟩ rfl rfl (valid_any hgx hgp hs) ?_
  rintro _ w6 ⟨rfl, hs⟩
  refine R.done ?_
  refine X.keep [(5, _), (6, _), (8, _), (19, _), (26, _)] ⟨rfl, rfl, rfl, rfl, rfl, trivial⟩ ?_
  refine X.next ?_
  refine C.cbool rfl (fun h26 => ?_) (fun h26 => ?_)
  refine C.region ?_
  refine R.ev rfl (E.move rfl) ?_
  refine R.ev rfl (E.loadRowC rfl Try.underlying42 rfl Try.sz42 (by exact ⟨hs.ldA, by exact Enc.len _⟩)) ?_
  refine R.buildSliceA rfl Try.underlying27 Try.sz42 Try.zr42 rfl (by exact Enc.len _) (by decide) (by decide) ?_
  intro b29 w29 n29
  have hs := hs.new n29
  refine R.capp1 (p20.2) hs rfl rfl Try.underlying27 Try.by42 (by rfl) rfl (by exact hs.ldA) (by decide) (by omega) (by omega) ?_
  intro v30 w30 F30 r30 hs
  refine R.ev rfl (E.assign rfl) ?_
  refine R.done ?_
  refine X.keep [(5, _), (6, _), (19, _)] ⟨rfl, rfl, rfl, trivial⟩ ?_
  refine X.blockNormal ?_
  first
    | exact X.again (L20, Ls ++ [p20], F20, v30, F30) ⟨rfl, rfl, rfl, trivial⟩ ⟨it20, hpm2, by rw [List.filter_append, List.map_append]; simpa [h26] using r30, hs.to⟩ (by show L20.length < Lr.length; omega)
    | exact X.again (L20, Ls ++ [p20], F20, v1, F1) ⟨rfl, rfl, rfl, trivial⟩ ⟨it20, hpm2, by rw [List.filter_append, List.map_append]; simpa [h26] using r1, hs.to⟩ (by show L20.length < Lr.length; omega)
  refine C.skip ?_
  refine X.blockNormal ?_
  first
    | exact X.again (L20, Ls ++ [p20], F20, v30, F30) ⟨rfl, rfl, rfl, trivial⟩ ⟨it20, hpm2, by rw [List.filter_append, List.map_append]; simpa [h26] using r30, hs.to⟩ (by show L20.length < Lr.length; omega)
    | exact X.again (L20, Ls ++ [p20], F20, v1, F1) ⟨rfl, rfl, rfl, trivial⟩ ⟨it20, hpm2, by rw [List.filter_append, List.map_append]; simpa [h26] using r1, hs.to⟩ (by show L20.length < Lr.length; omega)
theorem better_ok : raCmp K Rs 45 [] [] (fun a b => ltB a.x b.x) :=
  ⟨⟨_, _, Try.func45, rfl, by kernel_rfl⟩, fun x y w1 _ _ hs => (better_any x y hs).mono fun _ _ ⟨e, m⟩ => ⟨_, e, rfl, m⟩⟩
theorem ltA_swo : SWO (fun a b : RA => ltB a.x b.x) := ⟨fun x => ltB_swo.irrefl x.x, fun x y z => ltB_swo.trans x.x y.x z.x, fun x y z => ltB_swo.ntrans x.x y.x z.x⟩
theorem min_any {Z : List RA} (hne : Z ≠ []) (hl : Z.length ≤ 1000000) (hs : Sat K w Hs) [hr : KRow encA 83 K v Z] : Ret Try.prog 53 #[v, .func (.func 45) #[] #[]] w fun r w' => ∃ z, r = evA z ∧ z ∈ Z ∧ (∀ y ∈ Z, ltB y.x z.x = false) ∧ Sat K w' Hs := by
  obtain ⟨ad, cap, rfl, hsl, hc⟩ := hr.ex
  have h0 : 0 < Z.length := List.length_pos_iff.2 hne
  obtain ⟨z0, bk, of, hz0, mz0, lz0, rfl, A0⟩ := (hs.to (Hs := [])).el (i := 0) (ad := ad) (n := Z.length) (c := cap) h0
  have a0 := A0 _ hs.to
  refine Ret.enter (n := 33) (args := [.slice (some ⟨bk, of, none⟩) Z.length cap, .func (.func 45) #[] #[]]) Try.func53 rfl rfl ?_
  refine C.keep [(0, _), (1, _)] ⟨rfl, rfl, trivial⟩ ?_
  refine C.seq ?_
  refine C.region ?_
  refine R.sallocA hs Try.zr42 rfl ?_
  intro b4 w4 hs
  refine R.done ?_
  refine X.keep [(0, _), (1, _), (4, _)] ⟨rfl, rfl, rfl, trivial⟩ ?_
  refine X.next ?_
  refine C.seq ?_
  refine C.seq ?_
  refine C.region ?_
  refine R.ev rfl (E.move rfl) ?_
  refine R.ev rfl (E.lenSl rfl Try.underlying27) ?_
  refine R.ev rfl ((E.lss rfl rfl).isF (by omega)) ?_
  refine R.done ?_
  refine X.keep [(0, _), (1, _), (4, _), (9, _)] ⟨rfl, rfl, rfl, rfl, trivial⟩ ?_
  refine X.next ?_
  refine C.cfalse rfl ?_
  refine C.skip ?_
  refine X.next ?_
  refine C.seq ?_
  refine C.region ?_
  refine R.ev rfl (E.move rfl) ?_
  refine R.ev rfl (E.indexAddr (i := 0) rfl rfl Try.underlying27 Try.sz42 rfl (by omega)) ?_
  refine R.ev rfl (E.loadRow rfl Try.underlying42 rfl Try.sz42 (A0 _ hs.to) (Enc.len _)) ?_
  refine R.sallocA hs Try.zr42 rfl ?_
  intro b5 w5 hs
  refine R.cstoreAll hs rfl rfl Try.sz42 (by rfl) (by assumption) (by exact Enc.one _) ?_
  intro w3_4 hs
  try simp only [List.set_cons_zero, List.set_cons_succ] at hs
  refine R.done ?_
  refine X.keep [(0, _), (1, _), (4, _), (5, _)] ⟨rfl, rfl, rfl, rfl, trivial⟩ ?_
  refine X.next ?_
  refine C.seq ?_
  refine C.seq ?_
  refine C.region ?_
  refine R.ev rfl ((E.assign rfl).as (u := .int .i64 ((1 : Nat) : Int)) rfl) ?_
  refine R.done ?_
  refine X.keep [(0, _), (1, _), (4, _), (5, _), (6, _)] ⟨rfl, rfl, rfl, rfl, rfl, trivial⟩ ?_
  refine X.next ?_
  refine C.block ?_
  refine C.loop (T := Nat × RA) [(0, _), (1, _), (4, _), (5, _)] (fun (k, _) => [(6, .int .i64 (k : Nat))]) (fun (k, z) w' => k ≤ Z.length ∧ z ∈ Z ∧ (∀ y ∈ Z.take k, ltB y.x z.x = false) ∧ Sat K w' (row b5 42 (encA z) :: row b4 42 (encA az) :: Hs)) (fun (k, _) => Z.length - k) ((1, z0)) ⟨rfl, rfl, rfl, rfl, rfl, trivial⟩ ⟨by omega, mz0, fun y hy => by rw [take_snoc hz0] at hy; simp at hy; subst hy; exact ltB_swo.irrefl _, hs⟩ ?_
  rintro ⟨k, z⟩ w2 ⟨hk, mz, hmin, hs⟩
  refine C.keep [(0, _), (1, _), (4, _), (5, _), (6, _)] ⟨rfl, rfl, rfl, rfl, rfl, trivial⟩ ?_
  refine C.seq ?_
  refine C.seq ?_
  refine C.region ?_
  refine R.ev rfl (E.move rfl) ?_
  refine R.ev rfl (E.move rfl) ?_
  refine R.ev rfl (E.lenSl rfl Try.underlying27) ?_
  refine R.ev rfl (E.lss rfl rfl) ?_
  refine R.done ?_
  refine X.keep [(0, _), (1, _), (4, _), (5, _), (6, _), (17, _)] ⟨rfl, rfl, rfl, rfl, rfl, rfl, trivial⟩ ?_
  refine X.next ?_
  refine C.cdec rfl (fun h17 => ?_) (fun h17 => ?_)
  obtain ⟨y, hy⟩ : ∃ y, Z[k]? = some y := ⟨_, List.getElem?_eq_getElem (by omega)⟩
  have my : y ∈ Z := List.mem_of_getElem? hy
  have Ay := (hs.to (Hs := [])).elAt (b := bk) (off := of) (n := Z.length) cap hy
  refine C.skip ?_
  refine X.next ?_
  refine C.seq ?_
  refine C.block ?_
  refine C.seq ?_
  refine C.drawn (SatS hs) ([4, 5], [0, 1, 2, 3, 7]) (by kernel_rfl) ?_
  have hs := hs.drew
  refine D.evP 0 rfl (by kernel_rfl) rfl (fun _ => hs.to) (fun _ => E.move rfl) ?_
  refine D.evP 1 rfl (by kernel_rfl) rfl (fun _ => hs.to) (fun _ => E.move rfl) ?_
  refine D.evP 2 rfl (by kernel_rfl) rfl (fun _ => hs.to) (fun _ => E.move rfl) ?_
  refine D.evP 3 rfl (by kernel_rfl) rfl (fun _ => hs.to) (fun _ => E.indexAddr (i := k) rfl rfl Try.underlying27 Try.sz42 rfl (by omega)) ?_
  refine D.ev 4 rfl (by kernel_rfl) rfl hs.to (fun _ hS => E.loadRow rfl Try.underlying42 rfl Try.sz42 (Ay _ hS.to) (Enc.len _)) ?_
  refine D.ev 5 rfl (by kernel_rfl) rfl hs.to (fun _ hS => E.loadRowC rfl Try.underlying42 rfl Try.sz42 (by exact ⟨hS.ldA, by exact Enc.len _⟩)) ?_
  refine D.act 6 rfl (by kernel_rfl) ?_
  refine R.callV ⟨_, _, Try.func45, rfl, by kernel_rfl⟩ rfl rfl rfl (better_any y z hs) ?_
  rintro _ w7 ⟨rfl, hs⟩
  refine D.backT (by kernel_rfl) ?_
  refine D.evP 7 rfl (by kernel_rfl) rfl (np (by kernel_rfl)) (fun _ => (E.lss rfl rfl).isB (c := ltB y.x z.x) rfl) ?_
  refine D.done rfl (by kernel_rfl) ?_
  refine X.keep [(0, _), (1, _), (4, _), (5, _), (6, _), (27, _)] ⟨rfl, rfl, rfl, rfl, rfl, rfl, trivial⟩ ?_
  refine X.next ?_
  refine C.cbool rfl (fun h27 => ?_) (fun h27 => ?_)
  refine C.region ?_
  refine R.ev rfl (E.move rfl) ?_
  refine R.ev rfl (E.move rfl) ?_
  refine R.ev rfl (E.indexAddr (i := k) rfl rfl Try.underlying27 Try.sz42 rfl (by omega)) ?_
  refine R.ev rfl (E.loadRow rfl Try.underlying42 rfl Try.sz42 (Ay _ hs.to) (Enc.len _)) ?_
  refine R.cstoreAll hs rfl rfl Try.sz42 (by exact Enc.len _) (by exact Enc.len _) (by exact Enc.one _) ?_
  intro w8_4 hs
  try simp only [List.set_cons_zero, List.set_cons_succ] at hs
  refine R.done ?_
  refine X.keep [(0, _), (1, _), (4, _), (5, _), (6, _)] ⟨rfl, rfl, rfl, rfl, rfl, trivial⟩ ?_
  refine X.blockNormal ?_
  refine X.next ?_
  refine C.region ?_
  refine R.ev rfl (E.move rfl) ?_
  refine R.ev rfl (E.add rfl rfl (by omega) (by omega)) ?_
  refine R.ev rfl (E.assign rfl) ?_
  refine R.done ?_
  refine X.keep [(0, _), (1, _), (4, _), (5, _), (6, _)] ⟨rfl, rfl, rfl, rfl, rfl, trivial⟩ ?_
  first
    | exact X.again (k + 1, y) ⟨rfl, rfl, rfl, rfl, rfl, trivial⟩ ⟨by omega, my, fun u hu => by
        rw [take_snoc hy] at hu
        rcases List.mem_append.1 hu with hu | hu
        · have h1 := hmin u hu
          cases hc2 : ltB u.x y.x with
          | false => rfl
          | true => rw [ltB_swo.trans _ _ _ hc2 h27] at h1; cases h1
        · simp at hu; subst hu; exact ltB_swo.irrefl _, hs.to⟩ (by show _ - _ < _ - _; omega)
    | exact X.again (k + 1, z) ⟨rfl, rfl, rfl, rfl, rfl, trivial⟩ ⟨by omega, mz, fun u hu => by
        rw [take_snoc hy] at hu
        rcases List.mem_append.1 hu with hu | hu
        · exact hmin u hu
        · simp at hu; subst hu; exact h27, hs.to⟩ (by show _ - _ < _ - _; omega)
  refine C.skip ?_
  refine X.blockNormal ?_
  refine X.next ?_
  refine C.region ?_
  refine R.ev rfl (E.move rfl) ?_
  refine R.ev rfl (E.add rfl rfl (by omega) (by omega)) ?_
  refine R.ev rfl (E.assign rfl) ?_
  refine R.done ?_
  refine X.keep [(0, _), (1, _), (4, _), (5, _), (6, _)] ⟨rfl, rfl, rfl, rfl, rfl, trivial⟩ ?_
  first
    | exact X.again (k + 1, y) ⟨rfl, rfl, rfl, rfl, rfl, trivial⟩ ⟨by omega, my, fun u hu => by
        rw [take_snoc hy] at hu
        rcases List.mem_append.1 hu with hu | hu
        · have h1 := hmin u hu
          cases hc2 : ltB u.x y.x with
          | false => rfl
          | true => rw [ltB_swo.trans _ _ _ hc2 h27] at h1; cases h1
        · simp at hu; subst hu; exact ltB_swo.irrefl _, hs.to⟩ (by show _ - _ < _ - _; omega)
    | exact X.again (k + 1, z) ⟨rfl, rfl, rfl, rfl, rfl, trivial⟩ ⟨by omega, mz, fun u hu => by
        rw [take_snoc hy] at hu
        rcases List.mem_append.1 hu with hu | hu
        · exact hmin u hu
        · simp at hu; subst hu; exact h27, hs.to⟩ (by show _ - _ < _ - _; omega)
  refine C.exit ?_
  refine X.thenExit ?_
  refine X.loopExit ?_
  refine X.blockExit ?_
  refine X.next ?_
  refine C.seq ?_
  refine C.region ?_
  refine R.ev rfl (E.loadRowC rfl Try.underlying42 rfl Try.sz42 (by exact ⟨hs.ldA, by exact Enc.len _⟩)) ?_
  refine R.cstoreAll hs rfl rfl Try.sz42 (by rfl) (by exact Enc.len _) (by exact Enc.one _) ?_
  intro w9_1 hs
  try simp only [List.set_cons_zero, List.set_cons_succ] at hs
  refine R.done ?_
  refine X.keep [(4, _)] ⟨rfl, trivial⟩ ?_
  refine X.next ?_
  refine C.ret ?_
  refine X.resC rfl rfl Try.underlying42 rfl Try.sz42 (by exact ⟨hs.ldA, by exact Enc.len _⟩) ?_
  exact ⟨z, rfl, mz, by rw [List.take_of_length_le (by omega)] at hmin; exact hmin, hs.to⟩
theorem vals_any (hs : Sat K w Hs) (ho : v.oneCell' = true) : Ret Try.prog 55 #[v] w fun r w' => ∃ b, r = .func (.func 72) #[] #[ptr b] ∧ Sat K w' (row b 27 [v] :: Hs) := by
  refine Ret.enter (n := 4) (args := [v]) Try.func55 rfl rfl ?_
  refine C.keep [(0, _)] ⟨rfl, trivial⟩ ?_
  refine C.seq ?_
  refine C.region ?_
  refine R.sbox1 hs rfl ho rfl ?_
  intro b1 w1 hs
  refine R.ev rfl (E.assign rfl) ?_
  refine R.done ?_
  refine X.keep [(1, _)] ⟨rfl, trivial⟩ ?_
  refine X.next ?_
  refine C.seq ?_
  refine C.region ?_
  refine R.ev rfl (E.makeFunc rfl rfl) ?_
  refine R.ev rfl (E.assign rfl) ?_
  refine R.done ?_
  refine X.keep [(2, _)] ⟨rfl, trivial⟩ ?_
  refine X.next ?_
  refine C.ret ?_
  refine X.ret1 rfl rfl ?_
  exact ⟨b1, rfl, hs⟩
theorem vals_iter {b : Nat} {Z : List RA} (hr : KRow encA 83 K v Z) (hl : Z.length ≤ 1000000) (hb : InH b (.cells [v].toArray 27 (0, 0)) Hs) : Iter Try.prog K 72 [] [ptr b] evA Z Hs := by
  intro σ yv Pc step ok s0 F Rs w hsub hf hok0 hX hs
  have hb := hb.sub hsub
  obtain ⟨ad, cap, rfl, hsl, hc⟩ := hr.ex
  show Ret _ _ #[yv, ptr b] _ _
  refine Ret.enter (n := 16) (args := [yv, ptr b]) Try.func72 rfl rfl ?_
  refine C.keep [(0, _), (1, _)] ⟨rfl, rfl, trivial⟩ ?_
  refine C.seq ?_
  refine C.region ?_
  refine R.ev rfl (E.load1 rfl Try.underlying27 rfl (by exact hs.ld rfl)) ?_
  refine R.ev rfl (E.lenSl rfl Try.underlying27) ?_
  refine R.ev rfl (E.move rfl) ?_
  refine R.done ?_
  refine X.keep [(0, _), (5, _), (6, _), (7, _)] ⟨rfl, rfl, rfl, rfl, trivial⟩ ?_
  refine X.next ?_
  refine C.block ?_
  refine C.loop (T := Nat × σ × Hl) [(0, _), (5, _), (6, _)] (fun (k, _, _) => [(7, .int .i64 (k : Nat))]) (fun (k, s1, F1) w' => k ≤ Z.length ∧ ok s1 = true ∧ s1 = (Z.take k).foldl step s0 ∧ Pc s1 F1 ∧ runO step ok s0 Z = runO step ok s1 (Z.drop k) ∧ Sat K w' (F1 :: Rs)) (fun (k, _) => Z.length - k) ((0, s0, F)) ⟨rfl, rfl, rfl, rfl, trivial⟩ ⟨Nat.zero_le _, hok0, rfl, hX, rfl, hs.to⟩ ?_
  rintro ⟨k, s1, F1⟩ w1 ⟨hk, hok1, hs1, hX1, hrun, hs⟩
  refine C.keep [(0, _), (5, _), (6, _), (7, _)] ⟨rfl, rfl, rfl, rfl, trivial⟩ ?_
  refine C.seq ?_
  refine C.region ?_
  refine R.ev rfl (E.lss rfl rfl) ?_
  refine R.done ?_
  refine X.keep [(0, _), (5, _), (6, _), (7, _), (8, _)] ⟨rfl, rfl, rfl, rfl, rfl, trivial⟩ ?_
  refine X.next ?_
  refine C.seq ?_
  refine C.cdec rfl (fun h8 => ?_) (fun h8 => ?_)
  obtain ⟨y, bk_y, of_y, hy, my, ly, rfl, Ay⟩ := (hs.to (Hs := [])).el (i := k) (ad := ad) (n := Z.length) (c := cap) (by omega)
  have ay := Ay _ hs.to
  have hat := runO_at hrun hy
  refine C.skip ?_
  refine X.next ?_
  refine C.seq ?_
  refine C.block ?_
  refine C.seq ?_
  refine C.region ?_
  refine R.ev rfl (E.indexAddr rfl rfl Try.underlying27 Try.sz42 rfl (by omega)) ?_
  refine R.ev rfl (E.loadRowC rfl Try.underlying42 rfl Try.sz42 (by exact ⟨by assumption, by assumption⟩)) ?_
  refine R.sallocA hs Try.zr42 rfl ?_
  intro b4 w4 hs
  refine R.cstoreAll hs rfl rfl Try.sz42 (by rfl) (by assumption) (by exact Enc.one _) ?_
  intro w2_3 hs
  try simp only [List.set_cons_zero, List.set_cons_succ] at hs
  refine R.done ?_
  refine X.keep [(0, _), (4, _), (5, _), (6, _), (7, _)] ⟨rfl, rfl, rfl, rfl, rfl, trivial⟩ ?_
  refine X.next ?_
  refine C.seq ?_
  refine C.regionY rfl ?_
  refine RY.ev rfl (E.move rfl) ?_
  refine RY.ev rfl (E.loadRowC rfl Try.underlying42 rfl Try.sz42 (by exact ⟨hs.ldA, by assumption⟩)) ?_
  refine RY.callV rfl rfl rfl (hf s1 F1 _ (Z.take k) y (Z.drop (k + 1)) _ (split_at hy) hs1 hok1 hX1 (hs.front (F := F1))) ?_
  rintro _ w2 ⟨rfl, F3, hX2, hs2⟩
  have hs := hs.back (F := F1) hs2
  refine RY.of ?_
  refine R.ev rfl ((E.not rfl).isB (c := !(ok (step s1 y))) rfl) ?_
  refine R.done ?_
  refine X.keep [(0, _), (5, _), (6, _), (7, _), (14, _)] ⟨rfl, rfl, rfl, rfl, rfl, trivial⟩ ?_
  refine X.next ?_
  refine C.cbool rfl (fun h14 => ?_) (fun h14 => ?_)
  have hgo : ok (step s1 y) = false := by simpa using h14
  refine C.ret ?_
  refine X.blockRet ?_
  refine X.thenRet ?_
  refine X.loopRet ?_
  refine X.blockRet ?_
  refine X.ret0 rfl ?_
  first
    | exact ⟨F3, by rw [hat.2 hgo]; exact hX2, hs.to⟩
    | exact ⟨F1, runO_end hX1 hrun (by omega), hs.to⟩
  have hgo : ok (step s1 y) = true := by simpa using h14
  refine C.skip ?_
  refine X.blockNormal ?_
  refine X.next ?_
  refine C.region ?_
  refine R.ev rfl (E.add rfl rfl (by omega) (by omega)) ?_
  refine R.ev rfl (E.move rfl) ?_
  refine R.done ?_
  refine X.keep [(0, _), (5, _), (6, _), (7, _)] ⟨rfl, rfl, rfl, rfl, trivial⟩ ?_
  exact X.again (k + 1, step s1 y, F3) ⟨rfl, rfl, rfl, rfl, trivial⟩ ⟨by omega, hgo, by rw [take_snoc hy, List.foldl_append, ← hs1]; rfl, hX2, hat.1 hgo, hs.to⟩ (by show _ - _ < _ - _; omega)
  refine C.exit ?_
  refine X.thenExit ?_
  refine X.loopExit ?_
  refine X.blockExit ?_
  refine X.bodyNormal ?_
  refine X.ret0 rfl ?_
  first
    | exact ⟨F3, by rw [hat.2 hgo]; exact hX2, hs.to⟩
    | exact ⟨F1, runO_end hX1 hrun (by omega), hs.to⟩
theorem collect_any {b : Nat} {Z : List RA} (hr : KRow encA 83 K v Z) (hl : Z.length ≤ 100000) (hs : Sat K w Hs) (hb : InH b (.cells [v].toArray 27 (0, 0)) Hs) : Ret Try.prog 82 #[.slice none 0 0, .func (.func 72) #[] #[ptr b]] w fun r w' => ∃ F', RowL 42 encA 83 r Z F' ∧ Sat K w' (F' :: Hs) := by
  refine Ret.enter (n := 13) (args := [.slice none 0 0, .func (.func 72) #[] #[ptr b]]) Try.func82 rfl rfl ?_
  refine C.keep [(0, _), (1, _)] ⟨rfl, rfl, trivial⟩ ?_
  refine C.seq ?_
  refine C.region ?_
  refine R.sbox1 hs rfl rfl rfl ?_
  intro b2 w2 hs
  refine R.ev rfl (E.assign rfl) ?_
  refine R.done ?_
  refine X.keep [(1, _), (2, _)] ⟨rfl, rfl, trivial⟩ ?_
  refine X.next ?_
  refine C.seq ?_
  refine C.seq ?_
  refine C.region ?_
  refine R.ev rfl (E.move rfl) ?_
  refine R.done ?_
  refine X.keep [(2, _), (6, _)] ⟨rfl, rfl, trivial⟩ ?_
  refine X.next ?_
  refine C.block ?_
  refine C.rangeL (σ := List RA) (fun l G => ∃ v F1, G = row b2 27 [v] ++ F1 ∧ RowL 42 encA 83 v l F1) (fun l x => l ++ [x]) (fun _ => none) ([]) rfl rfl ⟨_, _, Try.func72, rfl, by kernel_rfl⟩ rfl (vals_iter (Hs := (row b2 27 [.slice none 0 0] ++ []) :: Hs) hr (by omega) inferInstance) (hs.nil.to) (⟨_, [], rfl, RowL.nil _ _ _⟩) rfl ?_ ?_
  rintro l c ids G1 R1 pre x post w1 hx hids _ ⟨v1, F1, rfl, r1⟩ hs
  have hl1 : ids.length < 100000 := by
    rw [hids, foldl_snoc, List.nil_append]
    rw [hx] at hl; simp at hl; omega
  have hs : Sat K w1 (lpP l c .ready none :: row b2 27 [v1] :: F1 :: R1) := hs.perm (by simp [List.append_assoc])
  obtain ⟨ad1, cap1, rfl, _⟩ := r1.val
  refine C.keep [(2, _), (7, _)] ⟨rfl, rfl, trivial⟩ ?_
  refine C.region ?_
  refine R.sallocA hs Try.zr42 rfl ?_
  intro b5 w5 hs
  refine R.cstoreAll hs rfl rfl Try.sz42 (by rfl) (by exact Enc.len _) (by exact Enc.one _) ?_
  intro w2_1 hs
  try simp only [List.set_cons_zero, List.set_cons_succ] at hs
  refine R.done ?_
  refine X.keep [(2, _), (5, _)] ⟨rfl, rfl, trivial⟩ ?_
  refine X.begin_ (c := c) (pd := none) hs ?_
  intro wb0 hs
  refine C.keep [(2, _), (5, _)] ⟨rfl, rfl, trivial⟩ ?_
  refine C.block ?_
  refine C.region ?_
  refine R.ev rfl (E.load1 rfl Try.underlying27 rfl (by exact hs.ld rfl)) ?_
  refine R.ev rfl (E.loadRowC rfl Try.underlying42 rfl Try.sz42 (by exact ⟨hs.ldA, by exact Enc.len _⟩)) ?_
  refine R.buildSliceA rfl Try.underlying27 Try.sz42 Try.zr42 rfl (by exact Enc.len _) (by decide) (by decide) ?_
  intro b10 w10 n10
  have hs := hs.new n10
  refine R.capp1 (x) hs rfl rfl Try.underlying27 Try.by42 (by rfl) rfl (by exact hs.ldA) (by decide) (by omega) (by omega) ?_
  intro v11 w11 F11 r11 hs
  refine R.cstore1 hs rfl rfl Try.sz27 (by simp [*]) (by exact OneC.one) ?_
  intro w3_4 hs
  try simp only [List.set_cons_zero, List.set_cons_succ] at hs
  refine R.done ?_
  refine X.keep [(2, _)] ⟨rfl, trivial⟩ ?_
  refine X.blockNormal ?_
  refine X.rndEnd (c := c) (st := .busy) (pd := none) hs ?_
  intro we0 hs
  exact ⟨rfl, _, ⟨v11, F11, rfl, r11⟩, show Sat K _ (lpP l c .ready none :: _ :: R1) from hs.to⟩
  rintro D0 G2 w2 hb2 hs
  rw [runO_all (fun _ _ => rfl), foldl_snoc, List.nil_append] at hb2
  obtain ⟨v5, F5, rfl, r5⟩ := hb2
  show X _ .normal _ _ _
  have hs : Sat K w2 (row b2 27 [v5] :: F5 :: dfP D0 (some []) :: Hs) := hs.perm (by simp [List.append_assoc])
  obtain ⟨ad5, cap5, rfl, _⟩ := r5.val
  refine X.keep [(2, _)] ⟨rfl, trivial⟩ ?_
  refine X.blockNormal ?_
  refine X.next ?_
  refine C.seq ?_
  refine C.region ?_
  refine R.ev rfl (E.load1 rfl Try.underlying27 rfl (by exact hs.ld rfl)) ?_
  refine R.ev rfl (E.assign rfl) ?_
  refine R.done ?_
  refine X.keep [(4, _)] ⟨rfl, trivial⟩ ?_
  refine X.next ?_
  refine C.ret ?_
  refine X.mark (D := D0) hs ?_
  intro wm0 hs
  refine X.ret1 rfl rfl ?_
  exact ⟨F5, r5, hs.to⟩
theorem collect2_any {b : Nat} {Z : List RA} (hr : KRow encA 83 K v Z) (hl : Z.length ≤ 100000) (hs : Sat K w Hs) (hb : InH b (.cells [v].toArray 27 (0, 0)) Hs) : Ret Try.prog 70 #[.func (.func 72) #[] #[ptr b]] w fun r w' => ∃ F', RowL 42 encA 83 r Z F' ∧ Sat K w' (F' :: Hs) := by
  refine Ret.enter (n := 5) (args := [.func (.func 72) #[] #[ptr b]]) Try.func70 rfl rfl ?_
  refine C.keep [(0, _)] ⟨rfl, trivial⟩ ?_
  refine C.seq ?_
  refine C.region ?_
  refine R.ev rfl (E.assign rfl) ?_
  refine R.done ?_
  refine X.keep [(0, _)] ⟨rfl, trivial⟩ ?_
  refine X.next ?_
  refine C.seq ?_
  refine C.region ?_
  refine R.ev rfl (E.move rfl) ?_
  refine R.call ⟨_, _, Try.func82, rfl, by kernel_rfl⟩ rfl rfl (collect_any hr hl hs hb) ?_
  rintro v1 w1 ⟨F1, r1, hs⟩
  refine R.ev rfl (E.assign rfl) ?_
  refine R.done ?_
  refine X.keep [(2, _)] ⟨rfl, trivial⟩ ?_
  refine X.next ?_
  refine C.ret ?_
  refine X.ret1 rfl rfl ?_
  exact ⟨F1, r1, hs⟩
theorem sortedF_any {b : Nat} {Z : List RA} (hr : KRow encA 83 K v Z) (hl : Z.length ≤ 100000) (hs : Sat K w Hs) (hb : InH b (.cells [v].toArray 27 (0, 0)) Hs) : Ret Try.prog 54 #[.func (.func 72) #[] #[ptr b], .func (.func 45) #[] #[]] w fun r w' => ∃ Z' F', RowL 42 encA 83 r Z' F' ∧ Z'.Perm Z ∧ Z'.Pairwise (fun x y => ltB y.x x.x = false) ∧ Sat K w' (F' :: Hs) := by
  refine Ret.enter (n := 12) (args := [.func (.func 72) #[] #[ptr b], .func (.func 45) #[] #[]]) Try.func54 rfl rfl ?_
  refine C.keep [(0, _), (1, _)] ⟨rfl, rfl, trivial⟩ ?_
  refine C.seq ?_
  refine C.region ?_
  refine R.ev rfl (E.assign rfl) ?_
  refine R.done ?_
  refine X.keep [(0, _), (1, _)] ⟨rfl, rfl, trivial⟩ ?_
  refine X.next ?_
  refine C.seq ?_
  refine C.region ?_
  refine R.ev rfl (E.move rfl) ?_
  refine R.call ⟨_, _, Try.func70, rfl, by kernel_rfl⟩ rfl rfl (collect2_any hr hl hs hb) ?_
  rintro v1 w1 ⟨F1, r1, hs⟩
  refine R.ev rfl (E.assign rfl) ?_
  refine R.done ?_
  refine X.keep [(1, _), (5, _)] ⟨rfl, rfl, trivial⟩ ?_
  refine X.next ?_
  refine C.seq ?_
  refine C.region ?_
  refine R.ev rfl (E.move rfl) ?_
  refine R.ev rfl (E.move rfl) ?_
  refine R.call ⟨_, _, Try.func71, rfl, by kernel_rfl⟩ rfl rfl (RwS.rasort_any (fst := []) (cps := []) better_ok ltA_swo (hs.front (F := F1)) (by omega)) ?_
  rintro _ w2 ⟨Z2, F2, r2, hp2, hso, hs1⟩
  have hs := hs.back (F := F1) hs1
  refine R.done ?_
  refine X.keep [(5, _)] ⟨rfl, trivial⟩ ?_
  refine X.next ?_
  refine C.seq ?_
  refine C.region ?_
  refine R.ev rfl (E.move rfl) ?_
  refine R.ev rfl (E.assign rfl) ?_
  refine R.done ?_
  refine X.keep [(4, _)] ⟨rfl, trivial⟩ ?_
  refine X.next ?_
  refine C.ret ?_
  refine X.ret1 rfl rfl ?_
  exact ⟨Z2, F2, r2, hp2, hso, hs⟩
end Go.Proofs.Ytmjmichghfepkaa
