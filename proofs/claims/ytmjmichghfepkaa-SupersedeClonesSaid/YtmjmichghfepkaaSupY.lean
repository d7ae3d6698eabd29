/-
  Chapter 41: Path, Successors, End of a set.
-/
import Derived.Test.YtmjmichghfepkaaSupU
namespace Go.Proofs.Ytmjmichghfepkaa
open Go.Eng Go.RowKit Go.Sort
variable {K : Kn} {Hs Rs : List Hl} {F : Hl} {w : World} {v : Value} {L : List RR} {p : Nat} {M : SMap}
/-- the identities of the path of a row -/
def PathI (L : List RR) (a : Vec 32) (I : List (Vec 32)) : Prop := (hasId a L = false ∧ I = []) ∨ ∃ x ∈ L, x.id = a ∧ ((∃ q, PathR L x q ∧ I = q.map RR.id) ∨ ((∀ q, ¬ PathR L x q) ∧ I = []))
def SuccI (L : List RR) (a : Vec 32) (I : List (Vec 32)) : Prop := (hasId a L = false ∧ I = []) ∨ ∃ x ∈ L, x.id = a ∧ ∃ S, SS ltB S ∧ (∀ y, y ∈ S ↔ y ∈ succs L x) ∧ I = S.map RR.id
theorem PathI.uniq (hn : (L.map RR.id).Nodup) {a : Vec 32} {I J : List (Vec 32)} (h : PathI L a I) (h' : PathI L a J) : I = J := by
  rcases h with ⟨h0, rfl⟩ | ⟨x, hx, hxa, h⟩
  · rcases h' with ⟨_, rfl⟩ | ⟨x, hx, hxa, _⟩
    · rfl
    · exact absurd (List.mem_map.2 ⟨x, hx, hxa⟩) (hasId_false.1 h0)
  · rcases h' with ⟨h0, rfl⟩ | ⟨x', hx', hxa', h'⟩
    · exact absurd (List.mem_map.2 ⟨x, hx, hxa⟩) (hasId_false.1 h0)
    · have := id_inj hn hx hx' (by rw [hxa, hxa'])
      subst this
      rcases h with ⟨q, h1, rfl⟩ | ⟨h1, rfl⟩
      · rcases h' with ⟨q', h1', rfl⟩ | ⟨h1', rfl⟩
        · rw [h1.det hn h1']
        · exact absurd h1 (h1' q)
      · rcases h' with ⟨q', h1', rfl⟩ | ⟨h1', rfl⟩
        · exact absurd h1' (h1 q')
        · rfl
theorem PathI.len (hn : (L.map RR.id).Nodup) {a : Vec 32} {I : List (Vec 32)} (h : PathI L a I) : I.length ≤ L.length := by
  rcases h with ⟨_, rfl⟩ | ⟨x, hx, _, ⟨q, h1, rfl⟩ | ⟨_, rfl⟩⟩
  · simp
  · rw [List.length_map]; exact nodup_len (h1.nodup hn) (h1.sub hx)
  · simp
theorem SuccI.uniq (hn : (L.map RR.id).Nodup) {a : Vec 32} {I J : List (Vec 32)} (h : SuccI L a I) (h' : SuccI L a J) : I = J := by
  rcases h with ⟨h0, rfl⟩ | ⟨x, hx, hxa, S, h1, h2, rfl⟩
  · rcases h' with ⟨_, rfl⟩ | ⟨x, hx, hxa, _⟩
    · rfl
    · exact absurd (List.mem_map.2 ⟨x, hx, hxa⟩) (hasId_false.1 h0)
  · rcases h' with ⟨h0, rfl⟩ | ⟨x', hx', hxa', S', h1', h2', rfl⟩
    · exact absurd (List.mem_map.2 ⟨x, hx, hxa⟩) (hasId_false.1 h0)
    · have := id_inj hn hx hx' (by rw [hxa, hxa'])
      subst this
      rw [ss_ext ltB_swo h1 h1' fun y => by rw [h2, h2']]
theorem ssB_of {S : List RR} (h1 : S.Pairwise (fun x y => ltB y x = false)) (h2 : (S.map RR.id).Nodup) : SS ltB S := by
  rw [List.Nodup, List.pairwise_map] at h2
  refine (h1.and h2).imp ?_
  rintro x y ⟨ha, hb⟩
  cases hc : ltB x y with
  | true => rfl
  | false => exact absurd (ltB_tot hc ha) hb
theorem encA_id (z : RA) : (encA z).drop 0 = z.x.id.1.map ub ++ (encA z).drop 32 := by
  rw [List.drop_zero]
  have : (encA z).drop 32 = z.x.au.1.map ub ++ ([.int .i64 z.x.date, z.gv, .slice none 0 0] ++ z.x.sup.1.map ub) := List.drop_left' (encV_len _)
  rw [this]; rfl
theorem path_any {a : Vec 32} (hI : SInv M L) (hG : GAll K M) (hl : L.length ≤ 4096) (hs : Sat K w Hs) [hw : SuIn p M Hs] : Ret Try.prog 33 #[ptr p, idV a.1] w fun r w' => ∃ K' I, KLe K K' ∧ KRow encV 32 K' r I ∧ PathI L a I ∧ Sat K' w' Hs := by
  have e1 := encV_len a
  refine Ret.enter (n := 32) (args := [ptr p, idV a.1]) Try.func33 rfl rfl ?_
  refine C.keep [(0, _), (1, _)] ⟨rfl, rfl, trivial⟩ ?_
  refine C.seq ?_
  refine C.region ?_
  refine R.sboxA hs rfl rfl ?_
  intro b3 w3 hs
  refine R.ev rfl (E.assign rfl) ?_
  refine R.done ?_
  refine X.keep [(0, _), (3, _)] ⟨rfl, rfl, trivial⟩ ?_
  refine X.next ?_
  refine C.seq ?_
  refine C.seq ?_
  refine C.region ?_
  refine R.ev rfl (E.move rfl) ?_
  refine R.ev rfl (E.loadRowC rfl Try.underlying37 rfl Try.sz37 (by exact ⟨hs.ldA, by assumption⟩)) ?_
  refine R.call ⟨_, _, Try.func32, rfl, by kernel_rfl⟩ rfl rfl (has_any a hs) ?_
  rintro _ w1 ⟨rfl, hs⟩
  refine R.ev rfl ((E.not rfl).isB (c := !((lkM M a).isSome)) rfl) ?_
  refine R.done ?_
  refine X.keep [(0, _), (3, _), (11, _)] ⟨rfl, rfl, rfl, trivial⟩ ?_
  refine X.next ?_
  refine C.cbool rfl (fun h11 => ?_) (fun h11 => ?_)
  refine C.seq ?_
  refine C.region ?_
  refine R.ev rfl (E.assign rfl) ?_
  refine R.done ?_
  refine X.keep [(4, _)] ⟨rfl, trivial⟩ ?_
  refine X.next ?_
  refine C.ret ?_
  refine X.thenRet ?_
  refine X.ret1 rfl rfl ?_
  exact ⟨K, [], KLe.refl K, KRow.nil, .inl ⟨by rw [← hI.has]; simpa using h11, rfl⟩, hs.to⟩
  refine C.skip ?_
  refine X.next ?_
  refine C.seq ?_
  refine C.region ?_
  obtain ⟨x0, hx0⟩ : ∃ x, lkM M a = some x := Option.isSome_iff_exists.1 (by simpa using h11)
  obtain ⟨hxa, hxL⟩ := hI.lkSome hx0
  have hs : Sat K w1 (row b3 37 (x0.x.id.1.map ub) :: Hs) := by rw [hxa]; exact hs
  rw [← hxa] at hx0
  refine R.cmake hs Try.underlying77 (Value.bool) rfl ?_
  intro v12 w12 F12 m12 hs
  refine R.ev rfl (E.assign rfl) ?_
  refine R.done ?_
  refine X.keep [(0, _), (3, _), (5, _)] ⟨rfl, rfl, rfl, trivial⟩ ?_
  refine X.next ?_
  refine C.seq ?_
  refine C.region ?_
  refine R.ev rfl (E.assign rfl) ?_
  refine R.done ?_
  refine X.keep [(0, _), (3, _), (5, _), (6, _)] ⟨rfl, rfl, rfl, rfl, trivial⟩ ?_
  refine X.next ?_
  refine C.block ?_
  refine C.loop (T := List RR × RA × Kn × Value × Hl × List (Vec 32 × Bool) × Hl) [(0, _), (3, _), (5, _)] (fun (_, _, _, v, _, _, _) => [(6, v)]) (fun (vis, x, K1, v, F1, Md, Gd) w' => Way L x0.x vis x.x ∧ lkM M x.x.id = some x ∧ (∀ y ∈ vis, y ∈ L) ∧ vis.Nodup ∧ KLe K K1 ∧ RowL 37 encV 32 v (vis.map RR.id) F1 ∧ MapL ekI Value.bool v12 Md Gd ∧ (∀ b, (lkM Md b).getD false = decide (b ∈ vis.map RR.id)) ∧ Sat K1 w' (row b3 37 (x.x.id.1.map ub) :: F1 :: Gd :: Hs)) (fun (vis, _) => L.length + 1 - vis.length) (([], x0, K, .slice none 0 0, [], [], F12)) ⟨rfl, rfl, rfl, rfl, trivial⟩ ⟨Way.start _, hx0, by simp, by simp, KLe.refl K, RowL.nil _ _ _, m12, fun b => by simp [lkM, findM], hs.nil.to⟩ ?_
  rintro ⟨vis, x, K1, v1, F1, Md, Gd⟩ w2 ⟨hway, hx, hvs, hvn, hk1, r1, hmd, hmet, hs⟩
  obtain ⟨_, hxL1⟩ := hI.lkSome hx
  have hvl : vis.length ≤ L.length := nodup_len hvn hvs
  have hml : (vis.map RR.id).length ≤ 4096 := by rw [List.length_map]; omega
  obtain ⟨ad1, cap1, rfl, _⟩ := r1.val
  refine C.keep [(0, _), (3, _), (5, _), (6, _)] ⟨rfl, rfl, rfl, rfl, trivial⟩ ?_
  refine C.block ?_
  refine C.seq ?_
  refine C.seq ?_
  refine C.region ?_
  refine R.ev rfl (E.move rfl) ?_
  refine R.ev rfl (E.loadRowC rfl Try.underlying37 rfl Try.sz37 (by exact ⟨hs.ldA, by exact encV_len _⟩)) ?_
  refine R.ev rfl ((E.lookupD hs rfl rfl Try.underlying77 x.x.id (by rfl)).as (u := .bool (decide (x.x.id ∈ vis.map RR.id))) (by rw [hmet])) ?_
  refine R.done ?_
  refine X.keep [(0, _), (3, _), (5, _), (6, _), (15, _)] ⟨rfl, rfl, rfl, rfl, rfl, trivial⟩ ?_
  refine X.next ?_
  refine C.cbool rfl (fun h15 => ?_) (fun h15 => ?_)
  refine C.seq ?_
  refine C.region ?_
  refine R.ev rfl (E.assign rfl) ?_
  refine R.done ?_
  refine X.keep [(4, _)] ⟨rfl, trivial⟩ ?_
  refine X.next ?_
  refine C.ret ?_
  refine X.thenRet ?_
  refine X.blockRet ?_
  refine X.loopRet ?_
  refine X.blockRet ?_
  refine X.ret1 rfl rfl ?_
  obtain ⟨y, hy, hyi⟩ := List.mem_map.1 (of_decide_eq_true h15)
  have := id_inj hI.nd (hvs y hy) hxL1 hyi
  subst this
  exact ⟨K1, [], hk1, KRow.nil, .inr ⟨x0.x, hxL, hxa, .inr ⟨hway.cycle hI.nd hy, rfl⟩⟩, hs.to⟩
  refine C.skip ?_
  refine X.next ?_
  refine C.seq ?_
  refine C.region ?_
  have hxv : x.x ∉ vis := fun h => of_decide_eq_false h15 (List.mem_map.2 ⟨_, h, rfl⟩)
  have hvn2 : (vis ++ [x.x]).Nodup := by rw [List.nodup_append]; exact ⟨hvn, by simp, fun a ha b hb e => by simp at hb; subst hb; exact hxv (e ▸ ha)⟩
  have hvs2 : ∀ y ∈ vis ++ [x.x], y ∈ L := fun y hy => by
    rcases List.mem_append.1 hy with hy | hy
    · exact hvs y hy
    · simp at hy; subst hy; exact hxL1
  refine R.ev rfl (E.move rfl) ?_
  refine R.ev rfl (E.loadRowC rfl Try.underlying37 rfl Try.sz37 (by exact ⟨hs.ldA, by exact encV_len _⟩)) ?_
  refine R.cput (x.x.id) (true) hs rfl rfl rfl Try.underlying77 (by rfl) (by rfl) ?_
  intro w7_2 F7_2 m7_2 hs
  refine R.done ?_
  refine X.keep [(0, _), (3, _), (5, _), (6, _)] ⟨rfl, rfl, rfl, rfl, trivial⟩ ?_
  refine X.next ?_
  refine C.seq ?_
  refine C.region ?_
  refine R.ev rfl (E.move rfl) ?_
  refine R.ev rfl (E.loadRowC rfl Try.underlying37 rfl Try.sz37 (by exact ⟨hs.ldA, by exact encV_len _⟩)) ?_
  refine R.buildSliceA rfl Try.underlying40 Try.sz37 Try.zr37 rfl (by exact encV_len _) (by decide) (by decide) ?_
  intro b20 w20 n20
  have hs := hs.new n20
  refine R.capp1 (x.x.id) hs rfl rfl Try.underlying40 Try.by37 (by rfl) rfl (by exact hs.ldA) (by decide) (by omega) (by omega) ?_
  intro v21 w21 F21 r21 hs
  have r21 : RowL 37 encV 32 v21 ((vis ++ [x.x]).map RR.id) F21 := by rw [List.map_append]; exact r21
  have o21 : OneC v21 := ⟨RowL.oneC⟩
  refine R.ev rfl (E.assign rfl) ?_
  refine R.done ?_
  refine X.keep [(0, _), (3, _), (5, _), (6, _)] ⟨rfl, rfl, rfl, rfl, trivial⟩ ?_
  refine X.next ?_
  refine C.seq ?_
  refine C.region ?_
  refine R.ev rfl (E.move rfl) ?_
  refine R.ev rfl (E.loadRowC rfl Try.underlying37 rfl Try.sz37 (by exact ⟨hs.ldA, by exact encV_len _⟩)) ?_
  refine R.call ⟨_, _, Try.func52, rfl, by kernel_rfl⟩ rfl rfl (succ_any hx hI (hG.mono hk1) hl hs) ?_
  rintro v24 w24 ⟨Z, F24, r24, hpZ, hlkZ, hs⟩
  obtain ⟨K2, hk2, rr24, hs⟩ := r24.freezeK hs
  obtain ⟨ad24, cap24, rfl, _⟩ := rr24.ex
  have hZl : Z.length ≤ 4096 := by
    have h1 := hpZ.length_eq
    have h2 := List.length_filter_le (valid x.x) L
    rw [List.length_map] at h1
    unfold succs at h1; omega
  refine R.ev rfl (E.assign rfl) ?_
  refine R.done ?_
  refine X.keep [(0, _), (3, _), (5, _), (6, _), (7, _)] ⟨rfl, rfl, rfl, rfl, rfl, trivial⟩ ?_
  refine X.next ?_
  refine C.seq ?_
  refine C.seq ?_
  refine C.region ?_
  refine R.ev rfl (E.move rfl) ?_
  refine R.ev rfl (E.lenSl rfl Try.underlying27) ?_
  refine R.ev rfl (E.eql rfl rfl) ?_
  refine R.done ?_
  refine X.keep [(0, _), (3, _), (5, _), (6, _), (7, _), (27, _)] ⟨rfl, rfl, rfl, rfl, rfl, rfl, trivial⟩ ?_
  refine X.next ?_
  refine C.cdec rfl (fun h27 => ?_) (fun h27 => ?_)
  refine C.seq ?_
  refine C.region ?_
  refine R.ev rfl (E.move rfl) ?_
  refine R.ev rfl (E.assign rfl) ?_
  refine R.done ?_
  refine X.keep [(4, _)] ⟨rfl, trivial⟩ ?_
  refine X.next ?_
  refine C.ret ?_
  refine X.thenRet ?_
  refine X.blockRet ?_
  refine X.loopRet ?_
  refine X.blockRet ?_
  refine X.ret1 rfl rfl ?_
  have hs0 : succs L x.x = [] := by
    have h1 := hpZ.length_eq
    rw [List.length_map, show Z.length = 0 by omega] at h1
    exact List.length_eq_zero_iff.1 h1.symm
  obtain ⟨K3, hk3, rr3, hs⟩ := r21.freezeK (hs.front (F := F21))
  exact ⟨K3, _, (hk1.trans hk2).trans hk3, rr3, .inr ⟨x0.x, hxL, hxa, .inl ⟨_, hway.fin hs0, rfl⟩⟩, hs.to⟩
  refine C.skip ?_
  refine X.next ?_
  refine C.region ?_
  refine R.ev rfl (E.move rfl) ?_
  refine R.call ⟨_, _, Try.func53, rfl, by kernel_rfl⟩ rfl rfl (min_any (Z := Z) (by intro e; rw [e] at h27; simp at h27) (by omega) hs) ?_
  rintro _ w12 ⟨z, rfl, mz, hmin, hs⟩
  have hbest : Best (succs L x.x) z.x := ⟨hpZ.mem_iff.1 (List.mem_map.2 ⟨z, mz, rfl⟩), fun y hy => by
    obtain ⟨u, hu, rfl⟩ := List.mem_map.1 (hpZ.mem_iff.2 hy)
    exact hmin u hu⟩
  refine R.ev rfl ((E.fieldRow (i := 0) rfl Try.underlying42 rfl Try.underlying37 rfl Try.sz37).as (u := idV z.x.id.1) (by simp [encA, idV, z.x.id.2, List.take_append])) ?_
  refine R.cstoreAll hs rfl rfl Try.sz37 (by exact encV_len _) (by exact encV_len _) (by exact OneL.all) ?_
  intro w12_3 hs
  try simp only [List.set_cons_zero, List.set_cons_succ] at hs
  refine R.done ?_
  refine X.keep [(0, _), (3, _), (5, _), (6, _)] ⟨rfl, rfl, rfl, rfl, trivial⟩ ?_
  refine X.blockNormal ?_
  exact X.again (vis ++ [x.x], z, K2, v21, F21, _, F7_2) ⟨rfl, rfl, rfl, rfl, trivial⟩ ⟨hway.step hI.nd hbest, hlkZ z mz, hvs2, hvn2, hk1.trans hk2, r21, m7_2, fun b => by
  rw [lkM_put, List.map_append]
  by_cases hb : b = x.x.id
  · rw [if_pos hb, hb]; simp
  · rw [if_neg hb, hmet]; simp [hb], hs.to⟩ (by show _ - _ < _ - _; rw [List.length_append, List.length_singleton]; omega)
theorem succs_any {a : Vec 32} (hI : SInv M L) (hG : GAll K M) (hl : L.length ≤ 4096) (hs : Sat K w Hs) [hw : SuIn p M Hs] : Ret Try.prog 35 #[ptr p, idV a.1] w fun r w' => ∃ K' I, KLe K K' ∧ KRow encV 32 K' r I ∧ SuccI L a I ∧ Sat K' w' Hs := by
  have e1 := encV_len a
  refine Ret.enter (n := 29) (args := [ptr p, idV a.1]) Try.func35 rfl rfl ?_
  refine C.keep [(0, _), (1, _)] ⟨rfl, rfl, trivial⟩ ?_
  refine C.seq ?_
  refine C.region ?_
  refine R.sboxA hs rfl rfl ?_
  intro b3 w3 hs
  refine R.ev rfl (E.assign rfl) ?_
  refine R.done ?_
  refine X.keep [(0, _), (3, _)] ⟨rfl, rfl, trivial⟩ ?_
  refine X.next ?_
  refine C.seq ?_
  refine C.seq ?_
  refine C.region ?_
  refine R.ev rfl (E.move rfl) ?_
  refine R.ev rfl (E.loadRowC rfl Try.underlying37 rfl Try.sz37 (by exact ⟨hs.ldA, by assumption⟩)) ?_
  refine R.call ⟨_, _, Try.func32, rfl, by kernel_rfl⟩ rfl rfl (has_any a hs) ?_
  rintro _ w1 ⟨rfl, hs⟩
  refine R.ev rfl ((E.not rfl).isB (c := !((lkM M a).isSome)) rfl) ?_
  refine R.done ?_
  refine X.keep [(0, _), (3, _), (11, _)] ⟨rfl, rfl, rfl, trivial⟩ ?_
  refine X.next ?_
  refine C.cbool rfl (fun h11 => ?_) (fun h11 => ?_)
  refine C.seq ?_
  refine C.region ?_
  refine R.ev rfl (E.assign rfl) ?_
  refine R.done ?_
  refine X.keep [(4, _)] ⟨rfl, trivial⟩ ?_
  refine X.next ?_
  refine C.ret ?_
  refine X.thenRet ?_
  refine X.ret1 rfl rfl ?_
  exact ⟨K, [], KLe.refl K, KRow.nil, .inl ⟨by rw [← hI.has]; simpa using h11, rfl⟩, hs.to⟩
  refine C.skip ?_
  refine X.next ?_
  refine C.seq ?_
  refine C.region ?_
  obtain ⟨x, hx⟩ : ∃ x, lkM M a = some x := Option.isSome_iff_exists.1 (by simpa using h11)
  obtain ⟨hxa, hxL⟩ := hI.lkSome hx
  refine R.ev rfl (E.assign rfl) ?_
  refine R.done ?_
  refine X.keep [(0, _), (3, _), (5, _)] ⟨rfl, rfl, rfl, trivial⟩ ?_
  refine X.next ?_
  refine C.seq ?_
  refine C.seq ?_
  refine C.region ?_
  refine R.ev rfl (E.move rfl) ?_
  refine R.ev rfl (E.loadRowC rfl Try.underlying37 rfl Try.sz37 (by exact ⟨hs.ldA, by assumption⟩)) ?_
  refine R.call ⟨_, _, Try.func52, rfl, by kernel_rfl⟩ rfl rfl (succ_any hx hI hG hl hs) ?_
  rintro v24 w24 ⟨Z, F24, r24, hpZ, hlkZ, hs⟩
  obtain ⟨K2, hk2, rr24, hs⟩ := r24.freezeK hs
  have hZl : Z.length ≤ 4096 := by
    have h1 := hpZ.length_eq
    have h2 := List.length_filter_le (valid x.x) L
    rw [List.length_map] at h1
    unfold succs at h1; omega
  refine R.call ⟨_, _, Try.func55, rfl, by kernel_rfl⟩ rfl rfl (vals_any hs (KRow.oneC' rr24)) ?_
  rintro _ w43 ⟨bV, rfl, hs⟩
  refine R.call ⟨_, _, Try.func54, rfl, by kernel_rfl⟩ rfl rfl (sortedF_any rr24 (by omega) hs inferInstance) ?_
  rintro v44 w44 ⟨Z4, F4, r4, hp4, hso4, hs⟩
  have hZ4 := hp4.length_eq
  obtain ⟨ad4, cap4, rfl, _⟩ := r4.val
  refine R.ev rfl (E.lenSl rfl Try.underlying27) ?_
  refine R.ev rfl (E.move rfl) ?_
  refine R.done ?_
  refine X.keep [(5, _), (16, _), (17, _), (18, _)] ⟨rfl, rfl, rfl, rfl, trivial⟩ ?_
  refine X.next ?_
  refine C.block ?_
  refine C.loop (T := Nat × Value × Hl) [(16, _), (17, _)] (fun (k, v, _) => [(5, v), (18, .int .i64 (k : Nat))]) (fun (k, v, F1) w' => k ≤ Z4.length ∧ RowL 37 encV 32 v ((Z4.take k).map fun z => z.x.id) F1 ∧ Sat K2 w' (F1 :: F4 :: Hs)) (fun (k, _) => Z4.length - k) ((0, .slice none 0 0, [])) ⟨rfl, rfl, rfl, rfl, trivial⟩ ⟨Nat.zero_le _, RowL.nil _ _ _, hs.nil.to⟩ ?_
  rintro ⟨k, v5, F5⟩ w5 ⟨hk, r5, hs⟩
  have hml : ((Z4.take k).map fun z => z.x.id).length ≤ 4096 := by rw [List.length_map, List.length_take]; omega
  refine C.keep [(5, _), (16, _), (17, _), (18, _)] ⟨rfl, rfl, rfl, rfl, trivial⟩ ?_
  refine C.seq ?_
  refine C.region ?_
  refine R.ev rfl (E.lss rfl rfl) ?_
  refine R.done ?_
  refine X.keep [(5, _), (16, _), (17, _), (18, _), (19, _)] ⟨rfl, rfl, rfl, rfl, rfl, trivial⟩ ?_
  refine X.next ?_
  refine C.seq ?_
  refine C.cdec rfl (fun h19 => ?_) (fun h19 => ?_)
  obtain ⟨y, bk_y, of_y, hy, my, ly, rfl, Ay⟩ := hs.el (i := k) (ad := ad4) (n := Z4.length) (c := cap4) (by omega)
  have ay := Ay _ hs
  refine C.skip ?_
  refine X.next ?_
  refine C.seq ?_
  refine C.block ?_
  refine C.seq ?_
  refine C.region ?_
  refine R.ev rfl (E.indexAddr rfl rfl Try.underlying27 Try.sz42 rfl (by omega)) ?_
  refine R.ev rfl (E.loadRowC rfl Try.underlying42 rfl Try.sz42 (by exact ⟨by assumption, by assumption⟩)) ?_
  refine R.sallocA hs Try.zr42 rfl ?_
  intro b7 w7 hs
  refine R.cstoreAll hs rfl rfl Try.sz42 (by rfl) (by assumption) (by exact Enc.one _) ?_
  intro w6_3 hs
  try simp only [List.set_cons_zero, List.set_cons_succ] at hs
  refine R.done ?_
  refine X.keep [(5, _), (7, _), (16, _), (17, _), (18, _)] ⟨rfl, rfl, rfl, rfl, rfl, trivial⟩ ?_
  refine X.next ?_
  refine C.region ?_
  refine R.ev rfl (E.move rfl) ?_
  refine R.ev rfl (E.fieldAddr0 0 rfl Try.underlying42 rfl Try.sz37 rfl) ?_
  refine R.ev rfl (E.loadRowC rfl Try.underlying37 rfl Try.sz37 (by exact ⟨hs.ldP rfl, by exact encV_len _⟩)) ?_
  refine R.buildSliceA rfl Try.underlying40 Try.sz37 Try.zr37 rfl (by exact encV_len _) (by decide) (by decide) ?_
  intro b25 w25 n25
  have hs := hs.new n25
  refine R.capp1 (y.x.id) hs rfl rfl Try.underlying40 Try.by37 (by rfl) rfl (by exact hs.ldA) (by decide) (by omega) (by omega) ?_
  intro v26 w26 F26 r26 hs
  refine R.ev rfl (E.assign rfl) ?_
  refine R.done ?_
  refine X.keep [(5, _), (16, _), (17, _), (18, _)] ⟨rfl, rfl, rfl, rfl, trivial⟩ ?_
  refine X.blockNormal ?_
  refine X.next ?_
  refine C.region ?_
  refine R.ev rfl (E.add rfl rfl (by omega) (by omega)) ?_
  refine R.ev rfl (E.move rfl) ?_
  refine R.done ?_
  refine X.keep [(5, _), (16, _), (17, _), (18, _)] ⟨rfl, rfl, rfl, rfl, trivial⟩ ?_
  exact X.again (k + 1, v26, F26) ⟨rfl, rfl, rfl, rfl, trivial⟩ ⟨by omega, by rw [take_snoc hy, List.map_append]; exact r26, hs.to⟩ (by show _ - _ < _ - _; omega)
  refine C.exit ?_
  refine X.thenExit ?_
  refine X.loopExit ?_
  refine X.blockExit ?_
  refine X.next ?_
  refine C.seq ?_
  refine C.region ?_
  refine R.ev rfl (E.move rfl) ?_
  refine R.ev rfl (E.assign rfl) ?_
  refine R.done ?_
  refine X.keep [(4, _)] ⟨rfl, trivial⟩ ?_
  refine X.next ?_
  refine C.ret ?_
  refine X.ret1 rfl rfl ?_
  rw [List.take_of_length_le (show Z4.length ≤ k by omega)] at r5
  obtain ⟨K3, hk3, rr3, hs⟩ := r5.freezeK (hs.front (F := F5))
  have hpx := (hp4.map RA.x).trans hpZ
  refine ⟨K3, _, hk2.trans hk3, rr3, .inr ⟨x.x, hxL, hxa, Z4.map RA.x, ssB_of (List.pairwise_map.2 hso4) ?_, fun y => hpx.mem_iff, by rw [List.map_map]; rfl⟩, hs.to⟩
  rw [(hpx.map RR.id).nodup_iff]
  exact hI.nd.sublist (List.filter_sublist.map _)
theorem end_any {a : Vec 32} (hI : SInv M L) (hG : GAll K M) (hl : L.length ≤ 4096) (hs : Sat K w Hs) [hw : SuIn p M Hs] : Ret Try.prog 34 #[ptr p, idV a.1] w fun r w' => ∃ K' I, r = .tuple #[idV (I.getLast?.getD vz).1, .bool (decide (0 < I.length))] ∧ KLe K K' ∧ PathI L a I ∧ Sat K' w' Hs := by
  have e1 := encV_len a
  refine Ret.enter (n := 20) (args := [ptr p, idV a.1]) Try.func34 rfl rfl ?_
  refine C.keep [(0, _), (1, _)] ⟨rfl, rfl, trivial⟩ ?_
  refine C.seq ?_
  refine C.region ?_
  refine R.sboxA hs rfl rfl ?_
  intro b3 w3 hs
  refine R.sallocA hs Try.zr37 rfl ?_
  intro b4 w4 hs
  refine R.ev rfl (E.assign rfl) ?_
  refine R.done ?_
  refine X.keep [(0, _), (3, _), (4, _)] ⟨rfl, rfl, rfl, trivial⟩ ?_
  refine X.next ?_
  refine C.seq ?_
  refine C.region ?_
  refine R.ev rfl (E.move rfl) ?_
  refine R.ev rfl (E.loadRowC rfl Try.underlying37 rfl Try.sz37 (by exact ⟨hs.ldA, by assumption⟩)) ?_
  refine R.call ⟨_, _, Try.func33, rfl, by kernel_rfl⟩ rfl rfl (path_any (a := a) hI hG hl hs) ?_
  rintro v9 w9 ⟨K2, I, hk2, r9, hP, hs⟩
  obtain ⟨ad9, cap9, rfl, hsl9, hc9⟩ := r9.ex
  have hIl := hP.len hI.nd
  refine R.ev rfl (E.assign rfl) ?_
  refine R.done ?_
  refine X.keep [(4, _), (6, _)] ⟨rfl, rfl, trivial⟩ ?_
  refine X.next ?_
  refine C.seq ?_
  refine C.seq ?_
  refine C.region ?_
  refine R.ev rfl (E.move rfl) ?_
  refine R.ev rfl (E.lenSl rfl Try.underlying40) ?_
  refine R.ev rfl (E.eql rfl rfl) ?_
  refine R.done ?_
  refine X.keep [(4, _), (6, _), (12, _)] ⟨rfl, rfl, rfl, trivial⟩ ?_
  refine X.next ?_
  refine C.cdec rfl (fun h12 => ?_) (fun h12 => ?_)
  refine C.seq ?_
  refine C.region ?_
  refine R.ev rfl ((E.buildA rfl Try.underlying37 Try.zr37 Try.sz5 rfl).as (u := .agg (encV vz).toArray) (by rfl)) ?_
  refine R.cstoreAll hs rfl rfl Try.sz37 (by rfl) (by rfl) (by exact OneL.all) ?_
  intro w3_1 hs
  try simp only [List.set_cons_zero, List.set_cons_succ] at hs
  refine R.ev rfl (E.assign rfl) ?_
  refine R.done ?_
  refine X.keep [(4, _), (5, _)] ⟨rfl, rfl, trivial⟩ ?_
  refine X.next ?_
  refine C.ret ?_
  refine X.thenRet ?_
  refine X.resCT rfl rfl Try.underlying37 rfl Try.sz37 (by exact ⟨hs.ldA, by rfl⟩) rfl ?_
  obtain rfl : I = [] := List.length_eq_zero_iff.1 (by omega)
  exact ⟨K2, [], rfl, hk2, hP, hs.to⟩
  refine C.skip ?_
  refine X.next ?_
  refine C.seq ?_
  refine C.region ?_
  obtain ⟨z, bk, of, hz, mz, lz, rfl, Az⟩ := (hs.to (Hs := [])).el (i := I.length - 1) (ad := ad9) (n := I.length) (c := cap9) (by omega)
  have hlast : I.getLast?.getD vz = z := by rw [List.getLast?_eq_getElem?, hz]; rfl
  have e2 := encV_len z
  refine R.ev rfl (E.move rfl) ?_
  refine R.ev rfl (E.move rfl) ?_
  refine R.ev rfl (E.lenSl rfl Try.underlying40) ?_
  refine R.ev rfl ((E.sub rfl rfl (by omega) (by omega)).isI (c := ((I.length - 1 : Nat) : Int)) (by omega)) ?_
  refine R.ev rfl (E.indexAddr (i := I.length - 1) rfl rfl Try.underlying40 Try.sz37 rfl (by omega)) ?_
  refine R.ev rfl (E.loadRow rfl Try.underlying37 rfl Try.sz37 (Az _ hs.to) lz) ?_
  refine R.cstoreAll hs rfl rfl Try.sz37 (by rfl) (by assumption) (by exact OneL.all) ?_
  intro w4_6 hs
  try simp only [List.set_cons_zero, List.set_cons_succ] at hs
  refine R.ev rfl (E.assign rfl) ?_
  refine R.done ?_
  refine X.keep [(4, _), (5, _)] ⟨rfl, rfl, trivial⟩ ?_
  refine X.next ?_
  refine C.ret ?_
  refine X.resCT rfl rfl Try.underlying37 rfl Try.sz37 (by exact ⟨hs.ldA, by assumption⟩) rfl ?_
  exact ⟨K2, I, by rw [hlast, decide_eq_true (by omega)], hk2, hP, hs.to⟩
end Go.Proofs.Ytmjmichghfepkaa
