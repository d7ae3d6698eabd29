/-
  Since: package and reference.
-/
import Derived.Test.YtobhhnfckhbeeaaHisC
import Derived.Test.YtobhhnfckhbeeaaCmp
namespace Go.Proofs.Ytobhhnfckhbeeaa
open Go.Eng Go.RowKit Go.Sort
variable {K : Kn} {Hs Rs : List Hl} {F : Hl} {w : World} {p : Nat} {s : Hi} {L : List HEnt} {v : Value}
def ltA (x y : HEnt) : Bool := decide (orI (cmpI x.arr y.arr) (cmpL x.id.1 y.id.1) < 0)
theorem ltA_iff {x y : HEnt} : ltA x y = true ↔ x.arr < y.arr ∨ (x.arr = y.arr ∧ ltV x.id y.id = true) := by
  unfold ltA orI cmpI ltV
  rw [decide_eq_true_eq, decide_eq_true_eq]
  by_cases h1 : x.arr < y.arr
  · simp [h1]
  · by_cases h2 : y.arr < x.arr
    · simp [h1, h2]; omega
    · have : x.arr = y.arr := by omega
      simp [this]
theorem ltA_false {x y : HEnt} : ltA x y = false ↔ y.arr < x.arr ∨ (x.arr = y.arr ∧ ltV x.id y.id = false) := by
  rw [Bool.eq_false_iff, Ne, ltA_iff]
  cases ltV x.id y.id <;> simp <;> omega
theorem ltA_swo : SWO ltA := ⟨fun x => ltA_false.2 (.inr ⟨rfl, ltV_swo.irrefl _⟩), fun x y z h1 h2 => by
  rw [ltA_iff] at *
  rcases h1 with h1 | ⟨h1, h1'⟩
  · rcases h2 with h2 | ⟨h2, _⟩
    · exact .inl (by omega)
    · exact .inl (by omega)
  · rcases h2 with h2 | ⟨h2, h2'⟩
    · exact .inl (by omega)
    · exact .inr ⟨by omega, ltV_swo.trans _ _ _ h1' h2'⟩, fun x y z h1 h2 => by
  rw [ltA_false] at *
  rcases h1 with h1 | ⟨h1, h1'⟩
  · rcases h2 with h2 | ⟨h2, _⟩
    · exact .inl (by omega)
    · exact .inl (by omega)
  · rcases h2 with h2 | ⟨h2, h2'⟩
    · exact .inl (by omega)
    · exact .inr ⟨by omega, ltV_swo.ntrans _ _ _ h1' h2'⟩⟩
theorem ssA_of {L : List HEnt} (h1 : L.Pairwise (fun x y => ltA y x = false)) (h2 : (L.map HEnt.id).Nodup) : SS ltA L := by
  rw [List.Nodup, List.pairwise_map] at h2
  refine (h1.and h2).imp ?_
  rintro x y ⟨ha, hb⟩
  cases hc : ltA x y with
  | true => rfl
  | false =>
    rw [ltA_false] at ha hc
    rcases ha with ha | ⟨ha, ha'⟩
    · rcases hc with hc | ⟨hc, _⟩ <;> omega
    · rcases hc with hc | ⟨_, hc'⟩
      · omega
      · exact absurd (ltV_tot _ _ hc' ha') hb
theorem since1_any {b : Nat} {mi : Int} (x : HEnt) (hs : Sat K w Hs) [i : InH b (.cells [.int .i64 mi].toArray 3 (0, 0)) Hs] : Ret Try.prog 54 #[evH x, ptr b] w fun r w' => r = .bool (decide (mi ≤ x.arr)) ∧ Sat K w' Hs := by
  refine Ret.enter (n := 8) (args := [evH x, ptr b]) Try.func54 rfl rfl ?_
  refine C.keep [(0, _), (1, _)] ⟨rfl, rfl, trivial⟩ ?_
  refine C.seq ?_
  refine C.region ?_
  refine R.sboxA hs rfl rfl ?_
  intro b2 w2 hs
  refine R.ev rfl (E.assign rfl) ?_
  refine R.done ?_
  refine X.keep [(1, _), (2, _)] ⟨rfl, rfl, trivial⟩ ?_
  refine X.next ?_
  refine C.seq ?_
  refine C.region ?_
  first | refine R.ev rfl (E.fieldAddr0 32 rfl Try.underlying29 rfl Try.sz3 rfl) ?_ | refine R.ev rfl (E.fieldAddrN 32 rfl Try.underlying29 rfl Try.sz3 rfl) ?_
  refine R.ev rfl (E.load1 rfl Try.underlying3 rfl (by first | exact hs.ldc | exact hs.ld rfl | exact hs.ld (by assumption) | exact by assumption | exact At.cellC (by assumption))) ?_
  refine R.ev rfl (E.load1 rfl Try.underlying3 rfl (by first | exact hs.ldc | exact hs.ld rfl | exact hs.ld (by assumption) | exact by assumption | exact At.cellC (by assumption))) ?_
  refine R.ev rfl (E.geq rfl rfl) ?_
  refine R.ev rfl (E.assign rfl) ?_
  refine R.done ?_
  refine X.keep [(3, _)] ⟨rfl, trivial⟩ ?_
  refine X.next ?_
  refine C.ret ?_
  refine X.ret1 rfl rfl ?_
  exact ⟨rfl, hs.to⟩
theorem since2_any (x y : HEnt) (hs : Sat K w Hs) : Ret Try.prog 56 #[evH x, evH y] w fun v w' => v = .int .i64 (orI (cmpI x.arr y.arr) (cmpL x.id.1 y.id.1)) ∧ Sat K w' Hs := by
  refine Ret.enter (n := 15) (args := [evH x, evH y]) Try.func56 rfl rfl ?_
  refine C.keep [(0, _), (1, _)] ⟨rfl, rfl, trivial⟩ ?_
  refine C.seq ?_
  refine C.region ?_
  refine R.sboxA hs rfl rfl ?_
  intro b2 w2 hs
  refine R.sboxA hs rfl rfl ?_
  intro b3 w3 hs
  refine R.ev rfl (E.assign rfl) ?_
  refine R.done ?_
  refine X.keep [(2, _), (3, _)] ⟨rfl, rfl, trivial⟩ ?_
  refine X.next ?_
  refine C.seq ?_
  refine C.drawn (SatS hs) ([1, 3, 5, 6], [0, 2, 10]) (by kernel_rfl) ?_
  have hs := hs.drew
  first | refine D.evP 0 rfl (by kernel_rfl) rfl (fun _ => hs.to) (fun _ => E.fieldAddr0 32 rfl Try.underlying29 rfl Try.sz3 rfl) ?_ | refine D.evP 0 rfl (by kernel_rfl) rfl (fun _ => hs.to) (fun _ => E.fieldAddrN 32 rfl Try.underlying29 rfl Try.sz3 rfl) ?_
  first | refine D.evP 2 rfl (by kernel_rfl) rfl (fun _ => hs.to) (fun _ => E.fieldAddr0 32 rfl Try.underlying29 rfl Try.sz3 rfl) ?_ | refine D.evP 2 rfl (by kernel_rfl) rfl (fun _ => hs.to) (fun _ => E.fieldAddrN 32 rfl Try.underlying29 rfl Try.sz3 rfl) ?_
  refine D.ev 1 rfl (by kernel_rfl) rfl hs.to (fun _ hS => E.load1 rfl Try.underlying3 rfl (by first | exact hS.ldc | exact hS.ld rfl | exact hS.ld (by assumption) | exact by assumption | exact At.cellC (by assumption) | exact At.cellC ((by assumption : ∀ w', Sat _ w' _ → At w' _ _ _) _ hS) | exact (by assumption : ∀ w', Sat _ w' _ → World.cell? w' _ = some _) _ hS)) ?_
  refine D.ev 3 rfl (by kernel_rfl) rfl hs.to (fun _ hS => E.load1 rfl Try.underlying3 rfl (by first | exact hS.ldc | exact hS.ld rfl | exact hS.ld (by assumption) | exact by assumption | exact At.cellC (by assumption) | exact At.cellC ((by assumption : ∀ w', Sat _ w' _ → At w' _ _ _) _ hS) | exact (by assumption : ∀ w', Sat _ w' _ → World.cell? w' _ = some _) _ hS)) ?_
  refine D.ev 5 rfl (by kernel_rfl) rfl hs.to (fun _ hS => E.loadRowC rfl Try.underlying29 rfl Try.sz29 (by first | exact ⟨hS.ldA, by first | rfl | assumption | exact encV_len _ | exact Enc.len _ | exact len_ub (by assumption)⟩ | exact ⟨hS.ldP rfl, by first | rfl | assumption | exact encV_len _ | exact Enc.len _ | exact len_ub (by assumption)⟩ | exact ⟨hS.ldM rfl rfl, by first | rfl | assumption | exact encV_len _ | exact Enc.len _ | exact len_ub (by assumption)⟩ | exact ⟨hS.ldM (by assumption) (by first | rfl | assumption), by first | rfl | assumption | exact encV_len _ | exact Enc.len _ | exact len_ub (by assumption)⟩ | exact ⟨by assumption, by first | rfl | assumption | exact encV_len _ | exact Enc.len _ | exact len_ub (by assumption)⟩ | exact ⟨(by assumption : ∀ w', Sat _ w' _ → At w' _ _ _) _ hS, by first | rfl | assumption | exact encV_len _ | exact Enc.len _ | exact len_ub (by assumption)⟩ | exact hS.ldp | exact At.partC (by assumption) | exact At.partC ((by assumption : ∀ w', Sat _ w' _ → At w' _ _ _) _ hS))) ?_
  refine D.ev 6 rfl (by kernel_rfl) rfl hs.to (fun _ hS => E.loadRowC rfl Try.underlying29 rfl Try.sz29 (by first | exact ⟨hS.ldA, by first | rfl | assumption | exact encV_len _ | exact Enc.len _ | exact len_ub (by assumption)⟩ | exact ⟨hS.ldP rfl, by first | rfl | assumption | exact encV_len _ | exact Enc.len _ | exact len_ub (by assumption)⟩ | exact ⟨hS.ldM rfl rfl, by first | rfl | assumption | exact encV_len _ | exact Enc.len _ | exact len_ub (by assumption)⟩ | exact ⟨hS.ldM (by assumption) (by first | rfl | assumption), by first | rfl | assumption | exact encV_len _ | exact Enc.len _ | exact len_ub (by assumption)⟩ | exact ⟨by assumption, by first | rfl | assumption | exact encV_len _ | exact Enc.len _ | exact len_ub (by assumption)⟩ | exact ⟨(by assumption : ∀ w', Sat _ w' _ → At w' _ _ _) _ hS, by first | rfl | assumption | exact encV_len _ | exact Enc.len _ | exact len_ub (by assumption)⟩ | exact hS.ldp | exact At.partC (by assumption) | exact At.partC ((by assumption : ∀ w', Sat _ w' _ → At w' _ _ _) _ hS))) ?_
  refine D.act 4 rfl (by kernel_rfl) ?_
  refine R.call ⟨_, _, Try.func58, rfl, by kernel_rfl⟩ rfl rfl (cmpCompare_any x.arr y.arr _) ?_
  rintro _ _ ⟨rfl, rfl⟩
  refine D.back hs.to ?_
  refine D.act 7 rfl (by kernel_rfl) ?_
  refine R.call ⟨_, _, Try.func59, rfl, by kernel_rfl⟩ rfl rfl (cmpIds_any x y hs) ?_
  rintro _ w7 ⟨rfl, hs⟩
  refine D.backT (by kernel_rfl) ?_
  refine D.act 8 rfl (by kernel_rfl) ?_
  refine R.buildSlice1 (parts := [(0, .tmp 9), (1, .tmp 12)]) (vs := [_, _]) rfl rfl rfl Try.underlying107 Try.sz3 Try.zr3 rfl (by simp [Value.oneCell']) (by decide) ?_
  intro b13 w13 n13
  have hs := hs.new n13
  refine D.backT (by kernel_rfl) ?_
  refine D.act 9 rfl (by kernel_rfl) ?_
  refine R.call ⟨_, _, Try.func57, rfl, by kernel_rfl⟩ rfl rfl (cmpOr_any (cmpI x.arr y.arr) (cmpL x.id.1 y.id.1) hs) ?_
  rintro _ w9 ⟨rfl, hs⟩
  refine D.backT (by kernel_rfl) ?_
  refine D.evP 10 rfl (by kernel_rfl) rfl (np (by kernel_rfl)) (fun _ => E.assign rfl) ?_
  refine D.done rfl (by kernel_rfl) ?_
  refine X.keep [(4, _)] ⟨rfl, trivial⟩ ?_
  refine X.next ?_
  refine C.ret ?_
  refine X.ret1 rfl rfl ?_
  exact ⟨rfl, hs.to⟩
theorem since2_ok : heCmp K Rs 56 [] [] ltA :=
  ⟨⟨_, _, Try.func56, rfl, by kernel_rfl⟩, fun x y w1 _ _ hs => (since2_any x y hs).mono fun _ _ ⟨e, m⟩ => ⟨_, e, rfl, m⟩⟩
theorem since_any (mi : Int) (ho : Ord s L) (hs : Sat K w Hs) [hw : HiIn p s Hs] : Ret Try.prog 34 #[ptr p, .int .i64 mi] w fun r w' => ∃ L' F', RowL 29 encH 36 r L' F' ∧ SS ltA L' ∧ (∀ x, x ∈ L' ↔ x ∈ L ∧ mi ≤ x.arr) ∧ L'.length ≤ 1048576 ∧ Sat K w' (F' :: Hs) := by
  refine Ret.enter (n := 12) (args := [ptr p, .int .i64 mi]) Try.func34 rfl rfl ?_
  refine C.keep [(0, _), (1, _)] ⟨rfl, rfl, trivial⟩ ?_
  refine C.seq ?_
  refine C.region ?_
  refine R.sbox1 hs rfl rfl rfl ?_
  intro b3 w3 hs
  refine R.ev rfl (E.assign rfl) ?_
  refine R.done ?_
  refine X.keep [(0, _), (3, _)] ⟨rfl, rfl, trivial⟩ ?_
  refine X.next ?_
  refine C.seq ?_
  refine C.region ?_
  refine R.ev rfl (E.move rfl) ?_
  refine R.ev rfl (E.makeFunc rfl rfl) ?_
  refine R.call ⟨_, _, Try.func49, rfl, by kernel_rfl⟩ rfl rfl (sorted_any (first := []) (cap := [ptr b3]) (fun x => decide (mi ≤ x.arr)) ⟨_, _, Try.func54, rfl, by kernel_rfl⟩ ho.ok hs (fun x w1 Hs1 hsub h1 => by have : InH b3 (.cells [.int .i64 mi].toArray 3 (0, 0)) Hs1 := InH.sub inferInstance hsub; exact since1_any x h1)) ?_
  rintro v6 w6 ⟨L2, F2, r2, hss, hmem, hl2, hs⟩
  refine R.ev rfl (E.assign rfl) ?_
  refine R.done ?_
  refine X.keep [(5, _)] ⟨rfl, trivial⟩ ?_
  refine X.next ?_
  refine C.seq ?_
  refine C.region ?_
  refine R.ev rfl (E.move rfl) ?_
  refine R.call ⟨_, _, Try.func55, rfl, by kernel_rfl⟩ rfl rfl (hesort_any since2_ok ltA_swo (hs.front (F := F2)) (by omega)) ?_
  rintro _ w9 ⟨L3, F3, r3, hp3, hso, hs1⟩
  have hs := hs.back (F := F2) hs1
  refine R.done ?_
  refine X.keep [(5, _)] ⟨rfl, trivial⟩ ?_
  refine X.next ?_
  refine C.seq ?_
  refine C.region ?_
  refine R.ev rfl (E.move rfl) ?_
  refine R.ev rfl (E.assign rfl) ?_
  refine R.done ?_
  refine X.keep [(4, _)] ⟨rfl, trivial⟩ ?_
  refine X.next ?_
  refine C.ret ?_
  refine X.ret1 rfl rfl ?_
  refine ⟨L3, F3, r3, ssA_of hso ?_, fun x => ?_, by have := hp3.length_eq; omega, hs.to⟩
  · rw [(hp3.map HEnt.id).nodup_iff]; exact ss_nd hss
  · rw [hp3.mem_iff, hmem, ho.mem, decide_eq_true_eq]
theorem ss_ins3 {lt : HEnt → HEnt → Bool} {a : Nat} {y : HEnt} (h : SS lt L) (h1 : ∀ z ∈ L.take a, lt z y = true) (h2 : ∀ z ∈ L.drop a, lt y z = true) : SS lt (L.take a ++ [y] ++ L.drop a) := by
  have h0 := h
  rw [SS, ← List.take_append_drop a L, List.pairwise_append] at h0
  obtain ⟨p1, p2, p3⟩ := h0
  rw [SS, List.append_assoc, List.pairwise_append]
  refine ⟨p1, ?_, fun z hz u hu => ?_⟩
  · rw [List.singleton_append, List.pairwise_cons]
    exact ⟨h2, p2⟩
  · rw [List.singleton_append, List.mem_cons] at hu
    rcases hu with rfl | hu
    · exact h1 z hz
    · exact p3 z hz u hu
theorem rsince_any (mi : Int) (hss : SS ltH L) (hs : Sat K w Hs) [hr : KRow encH 36 K v L] (hL : L.length ≤ 100000) : Ret Try.prog 35 #[v, .int .i64 mi] w fun r w' => ∃ L', SS ltA L' ∧ (∀ x, x ∈ L' ↔ x ∈ L ∧ mi ≤ x.arr) ∧ XPost K Hs L' (fun v => v) r w' := by
  obtain ⟨ad, cap, rfl, hsl, hc⟩ := hr.ex
  refine Ret.enter (n := 60) (args := [.slice ad L.length cap, .int .i64 mi]) Try.func35 rfl rfl ?_
  refine C.keep [(0, _), (1, _)] ⟨rfl, rfl, trivial⟩ ?_
  refine C.seq ?_
  refine C.region ?_
  refine R.ev rfl (E.assign rfl) ?_
  refine R.done ?_
  refine X.keep [(0, _), (1, _)] ⟨rfl, rfl, trivial⟩ ?_
  refine X.next ?_
  refine C.seq ?_
  refine C.region ?_
  refine R.ev rfl (E.assign rfl) ?_
  refine R.done ?_
  refine X.keep [(0, _), (1, _), (5, _)] ⟨rfl, rfl, rfl, trivial⟩ ?_
  refine X.next ?_
  refine C.seq ?_
  refine C.seq ?_
  refine C.region ?_
  refine R.ev rfl (E.assign rfl) ?_
  refine R.done ?_
  refine X.keep [(0, _), (1, _), (5, _), (6, _)] ⟨rfl, rfl, rfl, rfl, trivial⟩ ?_
  refine X.next ?_
  refine C.block ?_
  refine C.loop (T := Nat × Kn × List HEnt × Value) [(0, _), (1, _)] (fun (k, _, _, v) => [(5, v), (6, .int .i64 (k : Nat))]) (fun (k, K1, Lo, v) w' => k ≤ L.length ∧ Lo.length ≤ k ∧ SS ltA Lo ∧ (∀ x, x ∈ Lo ↔ x ∈ L.take k ∧ mi ≤ x.arr) ∧ KLe K K1 ∧ KRow encH 36 K1 v Lo ∧ Sat K1 w' Hs) (fun (k, _) => L.length - k) ((0, K, [], .slice none 0 0)) ⟨rfl, rfl, rfl, rfl, trivial⟩ ⟨Nat.zero_le _, Nat.zero_le _, by simp [SS], by simp, KLe.refl K, KRow.nil, hs⟩ ?_
  rintro ⟨k, K1, Lo, v1⟩ w1 ⟨hk, hlo, hsl1, hmem, hk1, hr1, hs⟩
  obtain ⟨ad1, cap1, rfl, hsl2, hc1⟩ := hr1.ex
  refine C.keep [(0, _), (1, _), (5, _), (6, _)] ⟨rfl, rfl, rfl, rfl, trivial⟩ ?_
  refine C.seq ?_
  refine C.seq ?_
  refine C.region ?_
  refine R.ev rfl (E.move rfl) ?_
  refine R.ev rfl (E.move rfl) ?_
  refine R.ev rfl (E.lenSl rfl Try.underlying36) ?_
  refine R.ev rfl (E.lss rfl rfl) ?_
  refine R.done ?_
  refine X.keep [(0, _), (1, _), (5, _), (6, _), (12, _)] ⟨rfl, rfl, rfl, rfl, rfl, trivial⟩ ?_
  refine X.next ?_
  refine C.cdec rfl (fun h12 => ?_) (fun h12 => ?_)
  · obtain ⟨y, bk_y, of_y, hy, my, ly, rfl, Ay⟩ := hs.el (i := k) (ad := ad) (n := L.length) (c := cap) (by omega)
    have ay := Ay _ hs
    refine C.skip ?_
    refine X.next ?_
    refine C.seq ?_
    refine C.block ?_
    refine C.seq ?_
    refine C.seq ?_
    refine C.region ?_
    refine R.ev rfl (E.move rfl) ?_
    refine R.ev rfl (E.move rfl) ?_
    refine R.ev rfl (E.indexAddr rfl rfl Try.underlying36 Try.sz24 rfl (by first | omega | decide)) ?_
    first | refine R.ev rfl (E.fieldAddr0 32 rfl Try.underlying24 rfl Try.sz3 rfl) ?_ | refine R.ev rfl (E.fieldAddrN 32 rfl Try.underlying24 rfl Try.sz3 rfl) ?_
    refine R.ev rfl (E.load1 rfl Try.underlying3 rfl (by first | exact hs.ldc | exact hs.ld rfl | exact hs.ld (by assumption) | exact by assumption | exact At.cellC (by assumption))) ?_
    refine R.ev rfl (E.move rfl) ?_
    refine R.ev rfl (E.lss rfl rfl) ?_
    refine R.done ?_
    refine X.keep [(0, _), (1, _), (5, _), (6, _), (21, _)] ⟨rfl, rfl, rfl, rfl, rfl, trivial⟩ ?_
    refine X.next ?_
    refine C.cdec rfl (fun h21 => ?_) (fun h21 => ?_)
    · have hmem' : ∀ x, x ∈ Lo ↔ x ∈ L.take (k + 1) ∧ mi ≤ x.arr := fun x => by
        rw [hmem, take_snoc hy, List.mem_append, List.mem_singleton]
        constructor
        · exact fun h => ⟨.inl h.1, h.2⟩
        · rintro ⟨h | rfl, h2⟩
          · exact ⟨h, h2⟩
          · omega
      have hnx : Lo.length ≤ k + 1 ∧ SS ltA Lo ∧ (∀ x, x ∈ Lo ↔ x ∈ L.take (k + 1) ∧ mi ≤ x.arr) ∧ KLe K K1 ∧ KRow encH 36 K1 (.slice ad1 Lo.length cap1) Lo := ⟨by omega, hsl1, hmem', hk1, hr1⟩
      generalize hvn : Value.slice ad1 Lo.length cap1 = vn at hnx ⊢
      obtain ⟨K2, Ln, hK2, hLn⟩ : ∃ K2 Ln, K2 = K1 ∧ Ln = Lo := ⟨_, _, rfl, rfl⟩
      rw [← hK2, ← hLn] at hnx
      have hs : Sat K2 w1 Hs := by rw [hK2]; exact hs
      refine C.exit ?_
      refine X.thenExit ?_
      refine X.blockExit ?_
      refine X.next ?_
      refine C.region ?_
      refine R.ev rfl (E.move rfl) ?_
      refine R.ev rfl (E.add rfl rfl (by omega) (by omega)) ?_
      refine R.ev rfl (E.assign rfl) ?_
      refine R.done ?_
      refine X.keep [(0, _), (1, _), (5, _), (6, _)] ⟨rfl, rfl, rfl, rfl, trivial⟩ ?_
      exact X.again (k + 1, K2, Ln, vn) ⟨rfl, rfl, rfl, rfl, trivial⟩ ⟨by omega, hnx.1, hnx.2.1, hnx.2.2.1, hnx.2.2.2.1, hnx.2.2.2.2, hs⟩ (by show _ - _ < _ - _; omega)
    · refine C.skip ?_
      refine X.next ?_
      refine C.seq ?_
      refine C.region ?_
      refine R.ev rfl (E.move rfl) ?_
      refine R.ev rfl (E.lenSl rfl Try.underlying36) ?_
      refine R.ev rfl (E.assign rfl) ?_
      refine R.done ?_
      refine X.keep [(0, _), (1, _), (5, _), (6, _), (7, _)] ⟨rfl, rfl, rfl, rfl, rfl, trivial⟩ ?_
      refine X.next ?_
      refine C.seq ?_
      refine C.block ?_
      refine C.loop  [(0, _), (1, _), (5, _), (6, _)] (fun a => [(7, .int .i64 (a : Nat))]) (fun a w' => a ≤ Lo.length ∧ (∀ j z, a ≤ j → Lo[j]? = some z → y.arr < z.arr) ∧ Sat K1 w' Hs) (fun a => a) (Lo.length) ⟨rfl, rfl, rfl, rfl, rfl, trivial⟩ ⟨Nat.le_refl _, fun j z h1 h2 => by have := (List.getElem?_eq_some_iff.1 h2).1; omega, hs⟩ ?_
      rintro a w2 ⟨ha, hgt, hs⟩
      refine C.keep [(0, _), (1, _), (5, _), (6, _), (7, _)] ⟨rfl, rfl, rfl, rfl, rfl, trivial⟩ ?_
      refine C.seq ?_
      refine C.seq ?_
      refine C.drawn (SatS hs) ([8, 13], [0, 1, 2, 3, 4, 5, 6, 7, 9, 10, 11, 12, 14, 15]) (by kernel_rfl) ?_
      have hs := hs.drew
      refine D.evP 0 rfl (by kernel_rfl) rfl (fun _ => hs.to) (fun _ => E.move rfl) ?_
      refine D.evP 1 rfl (by kernel_rfl) rfl (fun _ => hs.to) (fun _ => E.gtr rfl rfl) ?_
      refine D.evP 2 rfl (by kernel_rfl) rfl (fun _ => hs.to) (fun _ => E.move rfl) ?_
      refine D.split 26 rfl (fun h26 => ?_) (fun h26 => ?_)
      · have ha0 : 0 < a := by have := of_decide_eq_true h26; omega
        obtain ⟨z, bk_z, of_z, hz, mz, lz, rfl, Az⟩ := hs.el (i := a - 1) (ad := ad1) (n := Lo.length) (c := cap1) (by omega)
        refine D.evPG 3 rfl (by kernel_rfl) rfl rfl rfl (fun _ => hs.to) (fun _ => E.move rfl) ?_
        refine D.evPG 4 rfl (by kernel_rfl) rfl rfl rfl (fun _ => hs.to) (fun _ => E.move rfl) ?_
        refine D.evPG 5 rfl (by kernel_rfl) rfl rfl rfl (fun _ => hs.to) (fun _ => (E.sub rfl rfl (by omega) (by omega)).isI (c := ((a - 1 : Nat) : Int)) (by omega)) ?_
        refine D.evPG 6 rfl (by kernel_rfl) rfl rfl rfl (fun _ => hs.to) (fun _ => E.indexAddr (i := a - 1) rfl rfl Try.underlying36 Try.sz24 rfl (by omega)) ?_
        first | refine D.evPG 7 rfl (by kernel_rfl) rfl rfl rfl (fun _ => hs.to) (fun _ => E.fieldAddr0 32 rfl Try.underlying24 rfl Try.sz3 rfl) ?_ | refine D.evPG 7 rfl (by kernel_rfl) rfl rfl rfl (fun _ => hs.to) (fun _ => E.fieldAddrN 32 rfl Try.underlying24 rfl Try.sz3 rfl) ?_
        refine D.evPG 9 rfl (by kernel_rfl) rfl rfl rfl (fun _ => hs.to) (fun _ => E.move rfl) ?_
        refine D.evPG 10 rfl (by kernel_rfl) rfl rfl rfl (fun _ => hs.to) (fun _ => E.move rfl) ?_
        refine D.evPG 11 rfl (by kernel_rfl) rfl rfl rfl (fun _ => hs.to) (fun _ => E.indexAddr (i := k) rfl rfl Try.underlying36 Try.sz24 rfl (by omega)) ?_
        first | refine D.evPG 12 rfl (by kernel_rfl) rfl rfl rfl (fun _ => hs.to) (fun _ => E.fieldAddr0 32 rfl Try.underlying24 rfl Try.sz3 rfl) ?_ | refine D.evPG 12 rfl (by kernel_rfl) rfl rfl rfl (fun _ => hs.to) (fun _ => E.fieldAddrN 32 rfl Try.underlying24 rfl Try.sz3 rfl) ?_
        refine D.evG 8 rfl (by kernel_rfl) rfl rfl rfl hs.to (fun _ hS => E.load1 rfl Try.underlying3 rfl (At.cellC (Az _ hS))) ?_
        refine D.evG 13 rfl (by kernel_rfl) rfl rfl rfl hs.to (fun _ hS => E.load1 rfl Try.underlying3 rfl (At.cellC (Ay _ hS))) ?_
        refine D.evPG 14 rfl (by kernel_rfl) rfl rfl rfl (fun _ => hs.to) (fun _ => E.gtr rfl rfl) ?_
        refine D.evP 15 rfl (by kernel_rfl) rfl (fun _ => hs.to) (fun _ => E.pickT rfl rfl) ?_
        refine D.done rfl (by kernel_rfl) ?_
        refine X.keep [(0, _), (1, _), (5, _), (6, _), (7, _), (39, _)] ⟨rfl, rfl, rfl, rfl, rfl, rfl, trivial⟩ ?_
        refine X.next ?_
        refine C.cbool rfl (fun h39 => ?_) (fun h39 => ?_)
        · have h39 := of_decide_eq_true h39
          refine C.skip ?_
          refine X.next ?_
          refine C.block ?_
          refine C.region ?_
          refine R.ev rfl (E.move rfl) ?_
          refine R.ev rfl ((E.sub rfl rfl (by omega) (by omega)).isI (c := ((a - 1 : Nat) : Int)) (by omega)) ?_
          refine R.ev rfl (E.assign rfl) ?_
          refine R.done ?_
          refine X.keep [(0, _), (1, _), (5, _), (6, _), (7, _)] ⟨rfl, rfl, rfl, rfl, rfl, trivial⟩ ?_
          refine X.blockNormal ?_
          exact X.again (a - 1) ⟨rfl, rfl, rfl, rfl, rfl, trivial⟩ ⟨by omega, fun j z' h1 h2 => by
          rcases Nat.lt_or_ge j a with h | h
          · obtain rfl : j = a - 1 := by omega
            rw [hz] at h2; simp at h2; subst h2; exact h39
          · exact hgt j z' h h2, hs⟩ (by omega)
        · refine C.exit ?_
          refine X.thenExit ?_
          refine X.loopExit ?_
          refine X.blockExit ?_
          refine X.next ?_
          refine C.seq ?_
          refine C.region ?_
          have hle : ∀ z ∈ Lo.take a, z.arr ≤ y.arr := by
            intro u hu
            obtain ⟨j, hj, hju⟩ := List.getElem_of_mem hu
            have hj1 : j < a := by simp at hj; omega
            first
              | (have h39 := of_decide_eq_false h39
                 have hu2 : Lo[j]? = some u := by rw [← hju, List.getElem_take, List.getElem?_eq_getElem]
                 rcases Nat.lt_or_ge j (a - 1) with h | h
                 · obtain ⟨h3, h4⟩ := List.getElem?_eq_some_iff.1 hu2
                   obtain ⟨h5, h6⟩ := List.getElem?_eq_some_iff.1 hz
                   have := List.pairwise_iff_getElem.1 hsl1 j (a - 1) h3 h5 h
                   rw [h4, h6, ltA_iff] at this
                   omega
                 · obtain rfl : j = a - 1 := by omega
                   rw [hz] at hu2; simp at hu2; subst hu2; omega)
              | (have := of_decide_eq_false h26; omega)
          have hnew : SS ltA (Lo.take a ++ [y] ++ Lo.drop a) := by
            refine ss_ins3 hsl1 (fun z hz => ?_) (fun z hz => ?_)
            · have h1 := hle z hz
              rw [ltA_iff]
              rcases Int.lt_or_eq_of_le h1 with h2 | h2
              · exact .inl h2
              · refine .inr ⟨h2, ?_⟩
                have hzL := ((hmem z).1 (List.mem_of_mem_take hz)).1
                have hp := hss
                rw [SS, ← List.take_append_drop k L, List.pairwise_append] at hp
                exact hp.2.2 z hzL y (by rw [List.drop_eq_getElem_cons (List.getElem?_eq_some_iff.1 hy).1, (List.getElem?_eq_some_iff.1 hy).2]; simp)
            · obtain ⟨j, hj, hjz⟩ := List.getElem_of_mem hz
              rw [ltA_iff]
              left
              refine hgt (a + j) z (by omega) ?_
              rw [← hjz, List.getElem_drop, List.getElem?_eq_getElem]
          have hmem' : ∀ x, x ∈ Lo.take a ++ [y] ++ Lo.drop a ↔ x ∈ L.take (k + 1) ∧ mi ≤ x.arr := fun x => by
            have : x ∈ Lo.take a ++ [y] ++ Lo.drop a ↔ x = y ∨ x ∈ Lo := ins_mem
            rw [this, hmem, take_snoc hy, List.mem_append, List.mem_singleton]
            constructor
            · rintro (rfl | h)
              · exact ⟨.inr rfl, by omega⟩
              · exact ⟨.inl h.1, h.2⟩
            · rintro ⟨h | h, h2⟩
              · exact .inr ⟨h, h2⟩
              · exact .inl h
          have k1 := hr1.first (i := a) ha
          have k2 := hr1.behind (i := a) ha
          have hl1 : (Lo.take a).length = a := by rw [List.length_take]; omega
          have hl2 : (Lo.drop a).length = Lo.length - a := List.length_drop
          refine R.sbuild0 (enc := encH) hs Try.underlying36 Try.sz24 rfl ?_
          intro v42 w42 F42 r42 nn42 hs
          refine R.ev rfl (E.move rfl) ?_
          refine R.ev rfl (E.move rfl) ?_
          refine R.ev rfl (E.sliceH rfl rfl Try.underlying36 Try.sz24 rfl (by omega)) ?_
          refine R.cappSl hs rfl rfl Try.underlying36 Try.by24 (by rfl) rfl (by decide) (by first | omega | (simp only [List.length_append, List.length_cons, List.length_nil] at *; omega)) (by first | omega | (simp only [List.length_append, List.length_cons, List.length_nil] at *; omega)) ?_
          intro v46 w46 F46 r46 hs
          rw [List.nil_append] at r46
          refine R.ev rfl (E.assign rfl) ?_
          refine R.done ?_
          refine X.keep [(0, _), (1, _), (5, _), (6, _), (7, _), (8, _)] ⟨rfl, rfl, rfl, rfl, rfl, rfl, trivial⟩ ?_
          refine X.next ?_
          refine C.seq ?_
          refine C.region ?_
          have ay := Ay _ hs.to
          refine R.ev rfl (E.move rfl) ?_
          refine R.ev rfl (E.move rfl) ?_
          refine R.ev rfl (E.move rfl) ?_
          refine R.ev rfl (E.indexAddr rfl rfl Try.underlying36 Try.sz24 rfl (by first | omega | decide)) ?_
          refine R.ev rfl (E.loadRowC rfl Try.underlying24 rfl Try.sz24 (by first | exact ⟨hs.ldA, by first | rfl | assumption | exact encV_len _ | exact Enc.len _ | exact len_ub (by assumption)⟩ | exact ⟨hs.ldP rfl, by first | rfl | assumption | exact encV_len _ | exact Enc.len _ | exact len_ub (by assumption)⟩ | exact ⟨hs.ldM rfl rfl, by first | rfl | assumption | exact encV_len _ | exact Enc.len _ | exact len_ub (by assumption)⟩ | exact ⟨hs.ldM (by assumption) (by first | rfl | assumption), by first | rfl | assumption | exact encV_len _ | exact Enc.len _ | exact len_ub (by assumption)⟩ | exact ⟨by assumption, by first | rfl | assumption | exact encV_len _ | exact Enc.len _ | exact len_ub (by assumption)⟩ | exact hs.ldp | exact At.partC (by assumption))) ?_
          refine R.buildSliceA rfl Try.underlying36 Try.sz24 Try.zr24 rfl (by first | rfl | assumption | exact encV_len _ | exact Enc.len _ | simp [*]) (by decide) (by decide) ?_
          intro b52 w52 n52
          have hs := hs.new n52
          refine R.capp1 (y) hs rfl rfl Try.underlying36 Try.by24 (by rfl) rfl (by first | exact hs.ldA | exact hs.ldP rfl | exact by assumption) (by decide) (by first | omega | (simp only [List.length_append, List.length_cons, List.length_nil] at *; omega)) (by first | omega | (simp only [List.length_append, List.length_cons, List.length_nil] at *; omega)) ?_
          intro v53 w53 F53 r53 hs
          refine R.ev rfl (E.assign rfl) ?_
          refine R.done ?_
          refine X.keep [(0, _), (1, _), (5, _), (6, _), (7, _), (8, _)] ⟨rfl, rfl, rfl, rfl, rfl, rfl, trivial⟩ ?_
          refine X.next ?_
          refine C.region ?_
          refine R.ev rfl (E.move rfl) ?_
          refine R.ev rfl (E.move rfl) ?_
          refine R.ev rfl (E.move rfl) ?_
          refine R.ev rfl (E.sliceLs (a := a) rfl rfl Try.underlying36 Try.sz24 rfl (by omega)) ?_
          refine R.cappSl hs rfl rfl Try.underlying36 Try.by24 (by rfl) rfl (by decide) (by first | omega | (simp only [List.length_append, List.length_cons, List.length_nil] at *; omega)) (by first | omega | (simp only [List.length_append, List.length_cons, List.length_nil] at *; omega)) ?_
          intro v58 w58 F58 r58 hs
          obtain ⟨K2, hk2, r2, hs⟩ := r58.freezeK (hs.front (F := F58))
          have hs : Sat K2 _ Hs := hs.to
          have hnx : (Lo.take a ++ [y] ++ Lo.drop a).length ≤ k + 1 ∧ SS ltA (Lo.take a ++ [y] ++ Lo.drop a) ∧ (∀ x, x ∈ Lo.take a ++ [y] ++ Lo.drop a ↔ x ∈ L.take (k + 1) ∧ mi ≤ x.arr) ∧ KLe K K2 ∧ KRow encH 36 K2 v58 (Lo.take a ++ [y] ++ Lo.drop a) := ⟨by simp; omega, hnew, hmem', hk1.trans hk2, r2⟩
          generalize Lo.take a ++ [y] ++ Lo.drop a = Ln at hnx
          generalize v58 = vn at hnx ⊢
          refine R.ev rfl (E.assign rfl) ?_
          refine R.done ?_
          refine X.keep [(0, _), (1, _), (5, _), (6, _)] ⟨rfl, rfl, rfl, rfl, trivial⟩ ?_
          refine X.blockNormal ?_
          refine X.next ?_
          refine C.region ?_
          refine R.ev rfl (E.move rfl) ?_
          refine R.ev rfl (E.add rfl rfl (by omega) (by omega)) ?_
          refine R.ev rfl (E.assign rfl) ?_
          refine R.done ?_
          refine X.keep [(0, _), (1, _), (5, _), (6, _)] ⟨rfl, rfl, rfl, rfl, trivial⟩ ?_
          exact X.again (k + 1, K2, Ln, vn) ⟨rfl, rfl, rfl, rfl, trivial⟩ ⟨by omega, hnx.1, hnx.2.1, hnx.2.2.1, hnx.2.2.2.1, hnx.2.2.2.2, hs⟩ (by show _ - _ < _ - _; omega)
      · refine D.skipP 3 rfl (by kernel_rfl) rfl rfl rfl (fun _ => hs.to) ?_
        refine D.skipP 4 rfl (by kernel_rfl) rfl rfl rfl (fun _ => hs.to) ?_
        refine D.skipP 5 rfl (by kernel_rfl) rfl rfl rfl (fun _ => hs.to) ?_
        refine D.skipP 6 rfl (by kernel_rfl) rfl rfl rfl (fun _ => hs.to) ?_
        refine D.skipP 7 rfl (by kernel_rfl) rfl rfl rfl (fun _ => hs.to) ?_
        refine D.skipP 9 rfl (by kernel_rfl) rfl rfl rfl (fun _ => hs.to) ?_
        refine D.skipP 10 rfl (by kernel_rfl) rfl rfl rfl (fun _ => hs.to) ?_
        refine D.skipP 11 rfl (by kernel_rfl) rfl rfl rfl (fun _ => hs.to) ?_
        refine D.skipP 12 rfl (by kernel_rfl) rfl rfl rfl (fun _ => hs.to) ?_
        refine D.skip 8 rfl (by kernel_rfl) rfl rfl rfl hs.to ?_
        refine D.skip 13 rfl (by kernel_rfl) rfl rfl rfl hs.to ?_
        refine D.skipP 14 rfl (by kernel_rfl) rfl rfl rfl (fun _ => hs.to) ?_
        refine D.evP 15 rfl (by kernel_rfl) rfl (fun _ => hs.to) (fun _ => E.pickF rfl rfl) ?_
        refine D.done rfl (by kernel_rfl) ?_
        refine X.keep [(0, _), (1, _), (5, _), (6, _), (7, _), (39, _)] ⟨rfl, rfl, rfl, rfl, rfl, rfl, trivial⟩ ?_
        refine X.next ?_
        refine C.cfalse rfl ?_
        refine C.exit ?_
        refine X.thenExit ?_
        refine X.loopExit ?_
        refine X.blockExit ?_
        refine X.next ?_
        refine C.seq ?_
        refine C.region ?_
        have hle : ∀ z ∈ Lo.take a, z.arr ≤ y.arr := by
          intro u hu
          obtain ⟨j, hj, hju⟩ := List.getElem_of_mem hu
          have hj1 : j < a := by simp at hj; omega
          first
            | (have h39 := of_decide_eq_false h39
               have hu2 : Lo[j]? = some u := by rw [← hju, List.getElem_take, List.getElem?_eq_getElem]
               rcases Nat.lt_or_ge j (a - 1) with h | h
               · obtain ⟨h3, h4⟩ := List.getElem?_eq_some_iff.1 hu2
                 obtain ⟨h5, h6⟩ := List.getElem?_eq_some_iff.1 hz
                 have := List.pairwise_iff_getElem.1 hsl1 j (a - 1) h3 h5 h
                 rw [h4, h6, ltA_iff] at this
                 omega
               · obtain rfl : j = a - 1 := by omega
                 rw [hz] at hu2; simp at hu2; subst hu2; omega)
            | (have := of_decide_eq_false h26; omega)
        have hnew : SS ltA (Lo.take a ++ [y] ++ Lo.drop a) := by
          refine ss_ins3 hsl1 (fun z hz => ?_) (fun z hz => ?_)
          · have h1 := hle z hz
            rw [ltA_iff]
            rcases Int.lt_or_eq_of_le h1 with h2 | h2
            · exact .inl h2
            · refine .inr ⟨h2, ?_⟩
              have hzL := ((hmem z).1 (List.mem_of_mem_take hz)).1
              have hp := hss
              rw [SS, ← List.take_append_drop k L, List.pairwise_append] at hp
              exact hp.2.2 z hzL y (by rw [List.drop_eq_getElem_cons (List.getElem?_eq_some_iff.1 hy).1, (List.getElem?_eq_some_iff.1 hy).2]; simp)
          · obtain ⟨j, hj, hjz⟩ := List.getElem_of_mem hz
            rw [ltA_iff]
            left
            refine hgt (a + j) z (by omega) ?_
            rw [← hjz, List.getElem_drop, List.getElem?_eq_getElem]
        have hmem' : ∀ x, x ∈ Lo.take a ++ [y] ++ Lo.drop a ↔ x ∈ L.take (k + 1) ∧ mi ≤ x.arr := fun x => by
          have : x ∈ Lo.take a ++ [y] ++ Lo.drop a ↔ x = y ∨ x ∈ Lo := ins_mem
          rw [this, hmem, take_snoc hy, List.mem_append, List.mem_singleton]
          constructor
          · rintro (rfl | h)
            · exact ⟨.inr rfl, by omega⟩
            · exact ⟨.inl h.1, h.2⟩
          · rintro ⟨h | h, h2⟩
            · exact .inr ⟨h, h2⟩
            · exact .inl h
        have k1 := hr1.first (i := a) ha
        have k2 := hr1.behind (i := a) ha
        have hl1 : (Lo.take a).length = a := by rw [List.length_take]; omega
        have hl2 : (Lo.drop a).length = Lo.length - a := List.length_drop
        refine R.sbuild0 (enc := encH) hs Try.underlying36 Try.sz24 rfl ?_
        intro v42 w42 F42 r42 nn42 hs
        refine R.ev rfl (E.move rfl) ?_
        refine R.ev rfl (E.move rfl) ?_
        refine R.ev rfl (E.sliceH rfl rfl Try.underlying36 Try.sz24 rfl (by omega)) ?_
        refine R.cappSl hs rfl rfl Try.underlying36 Try.by24 (by rfl) rfl (by decide) (by first | omega | (simp only [List.length_append, List.length_cons, List.length_nil] at *; omega)) (by first | omega | (simp only [List.length_append, List.length_cons, List.length_nil] at *; omega)) ?_
        intro v46 w46 F46 r46 hs
        rw [List.nil_append] at r46
        refine R.ev rfl (E.assign rfl) ?_
        refine R.done ?_
        refine X.keep [(0, _), (1, _), (5, _), (6, _), (7, _), (8, _)] ⟨rfl, rfl, rfl, rfl, rfl, rfl, trivial⟩ ?_
        refine X.next ?_
        refine C.seq ?_
        refine C.region ?_
        have ay := Ay _ hs.to
        refine R.ev rfl (E.move rfl) ?_
        refine R.ev rfl (E.move rfl) ?_
        refine R.ev rfl (E.move rfl) ?_
        refine R.ev rfl (E.indexAddr rfl rfl Try.underlying36 Try.sz24 rfl (by first | omega | decide)) ?_
        refine R.ev rfl (E.loadRowC rfl Try.underlying24 rfl Try.sz24 (by first | exact ⟨hs.ldA, by first | rfl | assumption | exact encV_len _ | exact Enc.len _ | exact len_ub (by assumption)⟩ | exact ⟨hs.ldP rfl, by first | rfl | assumption | exact encV_len _ | exact Enc.len _ | exact len_ub (by assumption)⟩ | exact ⟨hs.ldM rfl rfl, by first | rfl | assumption | exact encV_len _ | exact Enc.len _ | exact len_ub (by assumption)⟩ | exact ⟨hs.ldM (by assumption) (by first | rfl | assumption), by first | rfl | assumption | exact encV_len _ | exact Enc.len _ | exact len_ub (by assumption)⟩ | exact ⟨by assumption, by first | rfl | assumption | exact encV_len _ | exact Enc.len _ | exact len_ub (by assumption)⟩ | exact hs.ldp | exact At.partC (by assumption))) ?_
        refine R.buildSliceA rfl Try.underlying36 Try.sz24 Try.zr24 rfl (by first | rfl | assumption | exact encV_len _ | exact Enc.len _ | simp [*]) (by decide) (by decide) ?_
        intro b52 w52 n52
        have hs := hs.new n52
        refine R.capp1 (y) hs rfl rfl Try.underlying36 Try.by24 (by rfl) rfl (by first | exact hs.ldA | exact hs.ldP rfl | exact by assumption) (by decide) (by first | omega | (simp only [List.length_append, List.length_cons, List.length_nil] at *; omega)) (by first | omega | (simp only [List.length_append, List.length_cons, List.length_nil] at *; omega)) ?_
        intro v53 w53 F53 r53 hs
        refine R.ev rfl (E.assign rfl) ?_
        refine R.done ?_
        refine X.keep [(0, _), (1, _), (5, _), (6, _), (7, _), (8, _)] ⟨rfl, rfl, rfl, rfl, rfl, rfl, trivial⟩ ?_
        refine X.next ?_
        refine C.region ?_
        refine R.ev rfl (E.move rfl) ?_
        refine R.ev rfl (E.move rfl) ?_
        refine R.ev rfl (E.move rfl) ?_
        refine R.ev rfl (E.sliceLs (a := a) rfl rfl Try.underlying36 Try.sz24 rfl (by omega)) ?_
        refine R.cappSl hs rfl rfl Try.underlying36 Try.by24 (by rfl) rfl (by decide) (by first | omega | (simp only [List.length_append, List.length_cons, List.length_nil] at *; omega)) (by first | omega | (simp only [List.length_append, List.length_cons, List.length_nil] at *; omega)) ?_
        intro v58 w58 F58 r58 hs
        obtain ⟨K2, hk2, r2, hs⟩ := r58.freezeK (hs.front (F := F58))
        have hs : Sat K2 _ Hs := hs.to
        have hnx : (Lo.take a ++ [y] ++ Lo.drop a).length ≤ k + 1 ∧ SS ltA (Lo.take a ++ [y] ++ Lo.drop a) ∧ (∀ x, x ∈ Lo.take a ++ [y] ++ Lo.drop a ↔ x ∈ L.take (k + 1) ∧ mi ≤ x.arr) ∧ KLe K K2 ∧ KRow encH 36 K2 v58 (Lo.take a ++ [y] ++ Lo.drop a) := ⟨by simp; omega, hnew, hmem', hk1.trans hk2, r2⟩
        generalize Lo.take a ++ [y] ++ Lo.drop a = Ln at hnx
        generalize v58 = vn at hnx ⊢
        refine R.ev rfl (E.assign rfl) ?_
        refine R.done ?_
        refine X.keep [(0, _), (1, _), (5, _), (6, _)] ⟨rfl, rfl, rfl, rfl, trivial⟩ ?_
        refine X.blockNormal ?_
        refine X.next ?_
        refine C.region ?_
        refine R.ev rfl (E.move rfl) ?_
        refine R.ev rfl (E.add rfl rfl (by omega) (by omega)) ?_
        refine R.ev rfl (E.assign rfl) ?_
        refine R.done ?_
        refine X.keep [(0, _), (1, _), (5, _), (6, _)] ⟨rfl, rfl, rfl, rfl, trivial⟩ ?_
        exact X.again (k + 1, K2, Ln, vn) ⟨rfl, rfl, rfl, rfl, trivial⟩ ⟨by omega, hnx.1, hnx.2.1, hnx.2.2.1, hnx.2.2.2.1, hnx.2.2.2.2, hs⟩ (by show _ - _ < _ - _; omega)
  · refine C.exit ?_
    refine X.thenExit ?_
    refine X.loopExit ?_
    refine X.blockExit ?_
    refine X.next ?_
    refine C.seq ?_
    refine C.region ?_
    refine R.ev rfl (E.move rfl) ?_
    refine R.ev rfl (E.assign rfl) ?_
    refine R.done ?_
    refine X.keep [(4, _)] ⟨rfl, trivial⟩ ?_
    refine X.next ?_
    refine C.ret ?_
    refine X.ret1 rfl rfl ?_
    have hke : k = L.length := by omega
    rw [hke, List.take_length] at hmem
    exact ⟨Lo, hsl1, hmem, K1, _, rfl, hk1, hr1, hs⟩
end Go.Proofs.Ytobhhnfckhbeeaa
