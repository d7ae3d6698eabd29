/-
  package history: All, Forget.
-/
import Derived.Test.YtifghjeapfijkaaGreatDoorHis3
namespace Go.Eng
theorem InH.sub {b : Nat} {o : Obj} {Hs Gs : List Hl} (h : InH b o Hs) (k : SubF Hs Gs) : InH b o Gs := ⟨k _ h.mem⟩
theorem FIn.sub' {F : Hl} {Hs Gs : List Hl} (h : FIn F Hs) (k : SubF Hs Gs) : FIn F Gs := ⟨fun p hp => k p (h.sub p hp)⟩
theorem runO_all {σ α : Type} {step : σ → α → σ} {ok : σ → Bool} (h : ∀ s a, ok (step s a) = true) : ∀ (L : List α) (s : σ), runO step ok s L = L.foldl step s
  | [], _ => rfl
  | a :: L, s => by rw [runO, if_pos (h s a), List.foldl_cons]; exact runO_all h L _
theorem runO_at {σ α : Type} {step : σ → α → σ} {ok : σ → Bool} {s0 s1 : σ} {L : List α} {k : Nat} {y : α} (h : runO step ok s0 L = runO step ok s1 (L.drop k)) (hy : L[k]? = some y) :
    (ok (step s1 y) = true → runO step ok s0 L = runO step ok (step s1 y) (L.drop (k + 1))) ∧ (ok (step s1 y) = false → runO step ok s0 L = step s1 y) := by
  obtain ⟨h1, h2⟩ := List.getElem?_eq_some_iff.1 hy
  rw [List.drop_eq_getElem_cons h1, h2, runO] at h
  exact ⟨fun hg => by rw [h, if_pos hg], fun hg => by rw [h, if_neg (by rw [hg]; decide)]⟩
theorem split_at {α : Type} {L : List α} {k : Nat} {y : α} (h : L[k]? = some y) : L = L.take k ++ y :: L.drop (k + 1) := by
  obtain ⟨h1, h2⟩ := List.getElem?_eq_some_iff.1 h
  have := List.take_append_drop k L
  rw [List.drop_eq_getElem_cons h1, h2] at this
  exact this.symm
theorem runO_end {σ α : Type} {step : σ → α → σ} {ok : σ → Bool} {s0 s1 : σ} {L : List α} {k : Nat} {Pc : σ → Hl → Prop} {F : Hl} (hp : Pc s1 F) (h : runO step ok s0 L = runO step ok s1 (L.drop k)) (hk : L.length ≤ k) : Pc (runO step ok s0 L) F := by
  rw [h, List.drop_eq_nil_of_le hk]; exact hp
end Go.Eng
namespace Go.Proofs.YtifghjeapfijkaaGreatDoor.Hist
open Go.Eng Go.RowKit Go.Sort
variable {K : Kn} {Hs Rs : List Hl} {F : Hl} {w : World} {p : Nat} {s : Hi}
theorem HiIn.sub {Gs : List Hl} (h : HiIn p s Hs) (k : SubF Hs Gs) : HiIn p s Gs := ⟨by
  obtain ⟨m, G, h1, h2, h3⟩ := h.ex
  exact ⟨m, G, h1.sub k, h2, h3.sub' k⟩⟩
theorem all_any (v : Value) (ho : v.oneCell' = true) (hs : Sat K w Hs) : Ret Tryz.prog 13 #[v] w fun r w' => ∃ b, r = .func (.func 33) #[] #[ptr b] ∧ Sat K w' (row b 36 [v] :: Hs) := by
  refine Ret.enter (n := 4) (args := [v]) Tryz.func13 rfl rfl ?_
  refine C.keep [(0, _)] ⟨rfl, trivial⟩ ?_
  refine C.seq ?_
  refine C.region ?_
  refine R.sbox1 hs rfl ho rfl ?_
  intro b1 w1 hs
  refine R.ev rfl (E.assign rfl) ?_
  refine R.done ?_
  refine X.keep [(1, _)] ⟨rfl, trivial⟩ ?_
  refine X.next ?_
  refine C.seq ?_
  refine C.region ?_
  refine R.ev rfl (E.makeFunc rfl rfl) ?_
  refine R.ev rfl (E.assign rfl) ?_
  refine R.done ?_
  refine X.keep [(2, _)] ⟨rfl, trivial⟩ ?_
  refine X.next ?_
  refine C.ret ?_
  refine X.ret1 rfl rfl ?_
  exact ⟨b1, rfl, hs⟩
theorem all11_any (x : HEnt) (hs : Sat K w Hs) : Ret Tryz.prog 35 #[evH x] w fun r w' => r = .bool true ∧ Sat K w' Hs := by
  refine Ret.enter (n := 3) (args := [evH x]) Tryz.func35 rfl rfl ?_
  refine C.keep [(0, _)] ⟨rfl, trivial⟩ ?_
  refine C.seq ?_
  refine C.region ?_
  refine R.sboxA hs rfl rfl ?_
  intro b1 w1 hs
  refine R.ev rfl (E.assign rfl) ?_
  refine R.done ?_
  refine X.keep [] trivial ?_
  refine X.next ?_
  refine C.seq ?_
  refine C.region ?_
  refine R.ev rfl (E.assign rfl) ?_
  refine R.done ?_
  refine X.keep [(2, _)] ⟨rfl, trivial⟩ ?_
  refine X.next ?_
  refine C.ret ?_
  refine X.ret1 rfl rfl ?_
  exact ⟨rfl, hs.to⟩
/-- the entries in order -/
structure Ord (s : Hi) (R : List HEnt) : Prop where
  ok : HOk s
  ss : SS ltH R
  mem : ∀ x, x ∈ R ↔ x ∈ s.M.map (·.2)
theorem Ord.len {R : List HEnt} (h : Ord s R) : R.length = s.M.length := by
  have h1 := ids_nd h.ok.nd h.ok.key
  have h2 : (s.M.map (·.2)).Nodup := by
    rw [List.Nodup, List.pairwise_map] at h1
    exact h1.imp fun hxy e => hxy (by rw [e])
  have h3 := h.ss.nodup ltH_swo
  have : R.Perm (s.M.map (·.2)) := (List.perm_ext_iff_of_nodup h3 h2).2 h.mem
  simpa using this.length_eq
theorem all1_iter {b : Nat} {Lx : List HEnt} (ho : Ord s Lx) (hw : HiIn p s Hs) (hb : InH b (.cells [ptr p].toArray 36 (0, 0)) Hs) : Iter Tryz.prog K 33 [] [ptr b] evH Lx Hs := by
  intro σ yv Pc step ok s0 F Rs w hsub hf hok0 hX hs
  have hw := hw.sub hsub
  have hb := hb.sub hsub
  show Ret _ _ #[yv, ptr b] _ _
  refine Ret.enter (n := 17) (args := [yv, ptr b]) Tryz.func33 rfl rfl ?_
  refine C.keep [(0, _), (1, _)] ⟨rfl, rfl, trivial⟩ ?_
  refine C.seq ?_
  refine C.region ?_
  refine R.ev rfl (E.load1 rfl Tryz.underlying36 rfl (by first | exact hs.ldc | exact hs.ld rfl | exact hs.ld (by assumption) | exact by assumption | exact At.cellC (by assumption) | exact hs.ldK rfl)) ?_
  refine R.call ⟨_, _, Tryz.func34, rfl, by kernel_rfl⟩ rfl rfl (sorted_any (first := []) (cap := []) (fun _ => true) ⟨_, _, Tryz.func35, rfl, by kernel_rfl⟩ ho.ok hs (fun x w1 Hs1 _ h1 => all11_any x h1)) ?_
  rintro v6 w6 ⟨L2, F2, r2, hss, hmem, hl2, hs⟩
  obtain rfl : L2 = Lx := ss_ext ltH_swo hss ho.ss fun x => by rw [hmem, ho.mem]; simp
  obtain ⟨ad, cap, rfl, _⟩ := r2.val
  refine R.ev rfl (E.lenSl rfl Tryz.underlying88) ?_
  refine R.ev rfl (E.move rfl) ?_
  refine R.done ?_
  refine X.keep [(0, _), (6, _), (7, _), (8, _)] ⟨rfl, rfl, rfl, rfl, trivial⟩ ?_
  refine X.next ?_
  refine C.block ?_
  refine C.loop (T := Nat × σ × Hl) [(0, _), (6, _), (7, _)] (fun (k, _, _) => [(8, .int .i64 (k : Nat))]) (fun (k, s1, F1) w' => k ≤ L2.length ∧ ok s1 = true ∧ s1 = (L2.take k).foldl step s0 ∧ Pc s1 F1 ∧ runO step ok s0 L2 = runO step ok s1 (L2.drop k) ∧ Sat K w' (F1 :: F2 :: Rs)) (fun (k, _) => L2.length - k) ((0, s0, F)) ⟨rfl, rfl, rfl, rfl, trivial⟩ ⟨Nat.zero_le _, hok0, rfl, hX, rfl, hs.to⟩ ?_
  rintro ⟨k, s1, F1⟩ w1 ⟨hk, hok1, hs1, hX1, hrun, hs⟩
  refine C.keep [(0, _), (6, _), (7, _), (8, _)] ⟨rfl, rfl, rfl, rfl, trivial⟩ ?_
  refine C.seq ?_
  refine C.region ?_
  refine R.ev rfl (E.lss rfl rfl) ?_
  refine R.done ?_
  refine X.keep [(0, _), (6, _), (7, _), (8, _), (9, _)] ⟨rfl, rfl, rfl, rfl, rfl, trivial⟩ ?_
  refine X.next ?_
  refine C.seq ?_
  refine C.cdec rfl (fun h9 => ?_) (fun h9 => ?_)
  · obtain ⟨y, bk_y, of_y, hy, my, ly, rfl, Ay⟩ := hs.el (i := k) (ad := ad) (n := L2.length) (c := cap) (by omega)
    have ay := Ay _ hs
    have hat := runO_at hrun hy
    refine C.skip ?_
    refine X.next ?_
    refine C.seq ?_
    refine C.block ?_
    refine C.seq ?_
    refine C.region ?_
    refine R.ev rfl (E.indexAddr rfl rfl Tryz.underlying88 Tryz.sz50 rfl (by first | omega | decide)) ?_
    refine R.ev rfl (E.loadRowC rfl Tryz.underlying50 rfl Tryz.sz50 (by first | exact ⟨hs.ldA, by first | rfl | assumption | exact encV_len _ | exact Enc.len _ | exact len_ub (by assumption)⟩ | exact ⟨hs.ldP rfl, by first | rfl | assumption | exact encV_len _ | exact Enc.len _ | exact len_ub (by assumption)⟩ | exact ⟨hs.ldM rfl rfl, by first | rfl | assumption | exact encV_len _ | exact Enc.len _ | exact len_ub (by assumption)⟩ | exact ⟨hs.ldM (by assumption) (by first | rfl | assumption), by first | rfl | assumption | exact encV_len _ | exact Enc.len _ | exact len_ub (by assumption)⟩ | exact ⟨by assumption, by first | rfl | assumption | exact encV_len _ | exact Enc.len _ | exact len_ub (by assumption)⟩ | exact hs.ldp | exact At.partC (by assumption))) ?_
    refine R.sallocA hs Tryz.zr50 rfl ?_
    intro b4 w4 hs
    first | refine R.cstoreAll hs rfl rfl Tryz.sz50 (by first | rfl | assumption | exact encV_len _ | exact Enc.len _ | exact len_ub (by assumption) | simp [*]) (by first | rfl | assumption | exact encV_len _ | exact Enc.len _ | exact len_ub (by assumption) | simp [*]) (by first | assumption | exact OneL.all | exact Enc.one _ | exact ub_all _ | (repeat' (first | refine List.forall_mem_cons.2 ⟨?_, ?_⟩ | exact List.forall_mem_nil _ | rfl | exact OneC.one | exact KRow.oneC' (by assumption)))) ?_ | refine R.cstore hs rfl rfl Tryz.sz50 (by first | rfl | assumption | exact encV_len _ | exact Enc.len _ | exact len_ub (by assumption) | simp [*]) (by simp [*]) (by first | assumption | exact OneL.all | exact Enc.one _ | exact ub_all _ | (repeat' (first | refine List.forall_mem_cons.2 ⟨?_, ?_⟩ | exact List.forall_mem_nil _ | rfl | exact OneC.one | exact KRow.oneC' (by assumption)))) ?_
    intro w2_3 hs
    try simp only [List.set_cons_zero, List.set_cons_succ] at hs
    refine R.done ?_
    refine X.keep [(0, _), (4, _), (6, _), (7, _), (8, _)] ⟨rfl, rfl, rfl, rfl, rfl, trivial⟩ ?_
    refine X.next ?_
    refine C.seq ?_
    refine C.regionY rfl ?_
    refine RY.ev rfl (E.move rfl) ?_
    refine RY.ev rfl (E.loadRowC rfl Tryz.underlying50 rfl Tryz.sz50 (by first | exact ⟨hs.ldA, by first | rfl | assumption | exact encV_len _ | exact Enc.len _ | exact len_ub (by assumption)⟩ | exact ⟨hs.ldP rfl, by first | rfl | assumption | exact encV_len _ | exact Enc.len _ | exact len_ub (by assumption)⟩ | exact ⟨hs.ldM rfl rfl, by first | rfl | assumption | exact encV_len _ | exact Enc.len _ | exact len_ub (by assumption)⟩ | exact ⟨hs.ldM (by assumption) (by first | rfl | assumption), by first | rfl | assumption | exact encV_len _ | exact Enc.len _ | exact len_ub (by assumption)⟩ | exact ⟨by assumption, by first | rfl | assumption | exact encV_len _ | exact Enc.len _ | exact len_ub (by assumption)⟩ | exact hs.ldp | exact At.partC (by assumption))) ?_
    refine RY.callV rfl rfl rfl (hf s1 F1 _ (L2.take k) y (L2.drop (k + 1)) _ (split_at hy) hs1 hok1 hX1 (hs.front (F := F1))) ?_
    rintro _ w2 ⟨rfl, F3, hX2, hs2⟩
    have hs := hs.back (F := F1) hs2
    refine RY.of ?_
    refine R.ev rfl ((E.not rfl).isB (c := !(ok (step s1 y))) rfl) ?_
    refine R.done ?_
    refine X.keep [(0, _), (6, _), (7, _), (8, _), (15, _)] ⟨rfl, rfl, rfl, rfl, rfl, trivial⟩ ?_
    refine X.next ?_
    refine C.cbool rfl (fun h15 => ?_) (fun h15 => ?_)
    · have hgo : ok (step s1 y) = false := by simpa using h15
      refine C.ret ?_
      refine X.blockRet ?_
      refine X.thenRet ?_
      refine X.loopRet ?_
      refine X.blockRet ?_
      refine X.ret0 rfl ?_
      first
        | exact ⟨F3, by rw [hat.2 hgo]; exact hX2, hs.to⟩
        | exact ⟨F1, runO_end hX1 hrun (by omega), hs.to⟩
    · have hgo : ok (step s1 y) = true := by simpa using h15
      refine C.skip ?_
      refine X.blockNormal ?_
      refine X.next ?_
      refine C.region ?_
      refine R.ev rfl (E.add rfl rfl (by omega) (by omega)) ?_
      refine R.ev rfl (E.move rfl) ?_
      refine R.done ?_
      refine X.keep [(0, _), (6, _), (7, _), (8, _)] ⟨rfl, rfl, rfl, rfl, trivial⟩ ?_
      exact X.again (k + 1, step s1 y, F3) ⟨rfl, rfl, rfl, rfl, trivial⟩ ⟨by omega, hgo, by rw [take_snoc hy, List.foldl_append, ← hs1]; rfl, hX2, hat.1 hgo, hs.to⟩ (by show _ - _ < _ - _; omega)
  · refine C.exit ?_
    refine X.thenExit ?_
    refine X.loopExit ?_
    refine X.blockExit ?_
    refine X.bodyNormal ?_
    refine X.ret0 rfl ?_
    first
      | exact ⟨F3, by rw [hat.2 hgo]; exact hX2, hs.to⟩
      | exact ⟨F1, runO_end hX1 hrun (by omega), hs.to⟩
end Go.Proofs.YtifghjeapfijkaaGreatDoor.Hist
