/-
  package bulletinlaw25: entries, Play; bulletinref25: Same.
-/
import Derived.Test.YtobhhnfckhbeeaaHisT
namespace Go.Eng
open Go.RowKit
theorem X.resTTTT {P : Program} {n : Nn} {g : Env} {w : World} {fn : Func} {F : Value → World → Prop} {u0 u1 u2 u3 : Nat} {v0 v1 v2 v3 : Value} (hr : fn.results = #[.tmp u0, .tmp u1, .tmp u2, .tmp u3]) (h0 : lk g u0 = some v0) (h1 : lk g u1 = some v1) (h2 : lk g u2 = some v2) (h3 : lk g u3 = some v3) (h : F (.tuple #[v0, v1, v2, v3]) w) (hn : n.dfs = [] := by rfl) : X (BodyQ P fn F) .ret n g w := X.leave0 hn fun a f => by
  refine ⟨.tuple #[v0, v1, v2, v3], ?_, h⟩
  simp [results, hr, f.known u0 _ h0, f.known u1 _ h1, f.known u2 _ h2, f.known u3 _ h3]
end Go.Eng
namespace Go.Proofs.Ytobhhnfckhbeeaa
open Go.Eng Go.RowKit Go.Sort
variable {K : Kn} {Hs Rs : List Hl} {F : Hl} {w : World} {p : Nat} {s : Hi} {L : List HEnt}
theorem rsame_any {K : Kn} {Hs : List Hl} {L M : List HEnt} {v v' : Value} {w : World} (hs : Sat K w Hs) [h1 : Rd encH 36 K Hs v L] [h2 : Rd encH 36 K Hs v' M] (hn : L.length ≤ 9223372036854775807) :
    Ret Try.prog 27 #[v, v'] w fun v w' => v = .bool (decide (L = M)) ∧ Sat K w' Hs := by
  obtain ⟨ad, c, rfl, _⟩ := h1.ex
  obtain ⟨ad', c', rfl, _⟩ := h2.ex
  refine Ret.enter (n := 26) (args := [.slice ad L.length c, .slice ad' M.length c']) Try.func27 rfl rfl ?_
  refine C.keep [(0, _), (1, _)] ⟨rfl, rfl, trivial⟩ ?_
  refine C.seq ?_
  refine C.region ?_
  refine R.ev rfl (E.assign rfl) ?_
  refine R.done ?_
  refine X.keep [(0, _), (1, _)] ⟨rfl, rfl, trivial⟩ ?_
  refine X.next ?_
  refine C.seq ?_
  refine C.seq ?_
  refine C.region ?_
  refine R.ev rfl (E.move rfl) ?_
  refine R.ev rfl (E.lenSl rfl Try.underlying36) ?_
  refine R.ev rfl (E.move rfl) ?_
  refine R.ev rfl (E.lenSl rfl Try.underlying36) ?_
  refine R.ev rfl (E.neq rfl rfl) ?_
  refine R.done ?_
  refine X.keep [(0, _), (1, _), (10, _)] ⟨rfl, rfl, rfl, trivial⟩ ?_
  refine X.next ?_
  refine C.cdec rfl (fun h10 => ?_) (fun h10 => ?_)
  · refine C.seq ?_
    refine C.region ?_
    refine R.ev rfl (E.assign rfl) ?_
    refine R.done ?_
    refine X.keep [(4, _)] ⟨rfl, trivial⟩ ?_
    refine X.next ?_
    refine C.ret ?_
    refine X.thenRet ?_
    refine X.ret1 rfl rfl ?_
    exact ⟨by rw [decide_eq_false]; intro e; rw [e] at h10; omega, hs⟩
  · refine C.skip ?_
    refine X.next ?_
    refine C.seq ?_
    refine C.seq ?_
    refine C.region ?_
    refine R.ev rfl (E.assign rfl) ?_
    refine R.done ?_
    refine X.keep [(0, _), (1, _), (5, _)] ⟨rfl, rfl, rfl, trivial⟩ ?_
    refine X.next ?_
    refine C.block ?_
    refine C.loop  [(0, _), (1, _)] (fun k => [(5, .int .i64 (k : Nat))]) (fun k w' => k ≤ L.length ∧ Sat K w' Hs ∧ L.take k = M.take k) (fun k => L.length - k) (0) ⟨rfl, rfl, rfl, trivial⟩ ⟨Nat.zero_le _, hs, rfl⟩ ?_
    rintro k w1 ⟨hk, hs, htk⟩
    refine C.keep [(0, _), (1, _), (5, _)] ⟨rfl, rfl, rfl, trivial⟩ ?_
    refine C.seq ?_
    refine C.seq ?_
    refine C.region ?_
    refine R.ev rfl (E.move rfl) ?_
    refine R.ev rfl (E.move rfl) ?_
    refine R.ev rfl (E.lenSl rfl Try.underlying36) ?_
    refine R.ev rfl (E.lss rfl rfl) ?_
    refine R.done ?_
    refine X.keep [(0, _), (1, _), (5, _), (14, _)] ⟨rfl, rfl, rfl, rfl, trivial⟩ ?_
    refine X.next ?_
    refine C.cdec rfl (fun h14 => ?_) (fun h14 => ?_)
    · obtain ⟨y, bk_y, of_y, hy, my, ly, rfl, Ay⟩ := hs.el (i := k) (ad := ad) (n := L.length) (c := c) (by omega)
      have ay := Ay _ hs
      obtain ⟨z, bk_z, of_z, hz, mz, lz, rfl, Az⟩ := hs.el (i := k) (ad := ad') (n := M.length) (c := c') (by omega)
      have az := Az _ hs
      refine C.skip ?_
      refine X.next ?_
      refine C.seq ?_
      refine C.block ?_
      refine C.seq ?_
      refine C.drawn (SatS hs) ([3, 7], [0, 1, 2, 4, 5, 6, 8]) (by kernel_rfl) ?_
      have hs := hs.drew
      refine D.evP 0 rfl (by kernel_rfl) rfl (fun _ => hs.to) (fun _ => E.move rfl) ?_
      refine D.evP 1 rfl (by kernel_rfl) rfl (fun _ => hs.to) (fun _ => E.move rfl) ?_
      refine D.evP 2 rfl (by kernel_rfl) rfl (fun _ => hs.to) (fun _ => E.indexAddr rfl rfl Try.underlying36 Try.sz24 rfl (by first | omega | decide)) ?_
      refine D.evP 4 rfl (by kernel_rfl) rfl (fun _ => hs.to) (fun _ => E.move rfl) ?_
      refine D.evP 5 rfl (by kernel_rfl) rfl (fun _ => hs.to) (fun _ => E.move rfl) ?_
      refine D.evP 6 rfl (by kernel_rfl) rfl (fun _ => hs.to) (fun _ => E.indexAddr rfl rfl Try.underlying36 Try.sz24 rfl (by first | omega | decide)) ?_
      refine D.ev 3 rfl (by kernel_rfl) rfl hs.to (fun _ hS => E.loadRow rfl Try.underlying24 rfl Try.sz24 (Ay _ hS) ly) ?_
      refine D.ev 7 rfl (by kernel_rfl) rfl hs.to (fun _ hS => E.loadRow rfl Try.underlying24 rfl Try.sz24 (Az _ hS) lz) ?_
      refine D.evP 8 rfl (by kernel_rfl) rfl (fun _ => hs.to) (fun _ => (E.neqAgg 10 rfl rfl Try.lv24 rfl Try.underlying24 rfl Try.gd24 (encH_fits y ly) (encH_fits z lz)).isB (c := decide (y ≠ z)) (by rw [encH_eq ly lz]; simp)) ?_
      refine D.done rfl (by kernel_rfl) ?_
      refine X.keep [(0, _), (1, _), (5, _), (25, _)] ⟨rfl, rfl, rfl, rfl, trivial⟩ ?_
      refine X.next ?_
      refine C.cdec rfl (fun h25 => ?_) (fun h25 => ?_)
      · refine C.seq ?_
        refine C.region ?_
        refine R.ev rfl (E.assign rfl) ?_
        refine R.done ?_
        refine X.keep [(4, _)] ⟨rfl, trivial⟩ ?_
        refine X.next ?_
        refine C.ret ?_
        refine X.blockRet ?_
        refine X.thenRet ?_
        refine X.loopRet ?_
        refine X.blockRet ?_
        refine X.thenRet ?_
        refine X.ret1 rfl rfl ?_
        exact ⟨by rw [decide_eq_false]; intro e; rw [e, hz] at hy; exact h25 (by simpa using hy.symm), hs⟩
      · refine C.skip ?_
        refine X.blockNormal ?_
        refine X.next ?_
        refine C.region ?_
        refine R.ev rfl (E.move rfl) ?_
        refine R.ev rfl (E.add rfl rfl (by omega) (by omega)) ?_
        refine R.ev rfl (E.assign rfl) ?_
        refine R.done ?_
        refine X.keep [(0, _), (1, _), (5, _)] ⟨rfl, rfl, rfl, trivial⟩ ?_
        exact X.again (k + 1) ⟨rfl, rfl, rfl, trivial⟩ ⟨by omega, hs, by rw [take_snoc hy, take_snoc hz, htk, Decidable.not_not.1 h25]⟩ (by omega)
    · refine C.exit ?_
      refine X.thenExit ?_
      refine X.loopExit ?_
      refine X.blockExit ?_
      refine X.next ?_
      refine C.seq ?_
      refine C.region ?_
      refine R.ev rfl (E.assign rfl) ?_
      refine R.done ?_
      refine X.keep [(4, _)] ⟨rfl, trivial⟩ ?_
      refine X.next ?_
      refine C.ret ?_
      refine X.ret1 rfl rfl ?_
      exact ⟨by rw [decide_eq_true]; rw [← List.take_length (l := L), ← List.take_length (l := M), show M.length = L.length by omega]; rwa [show k = L.length by omega] at htk, hs⟩
theorem foldl_snoc {α : Type} (L l : List α) : L.foldl (fun l x => l ++ [x]) l = l ++ L := by
  induction L generalizing l with
  | nil => simp
  | cons x L ih => rw [List.foldl_cons, ih]; simp
theorem entries_any (ho : Ord s L) (hs : Sat K w Hs) [hw : HiIn p s Hs] : Ret Try.prog 28 #[ptr p] w fun r w' => ∃ F', RowL 24 encH 36 r L F' ∧ Sat K w' (F' :: Hs) := by
  have hlen : L.length ≤ 1048576 := by have := ho.len; have := ho.ok.len; omega
  refine Ret.enter (n := 14) (args := [ptr p]) Try.func28 rfl rfl ?_
  refine C.keep [(0, _)] ⟨rfl, trivial⟩ ?_
  refine C.seq ?_
  refine C.region ?_
  refine R.ev rfl (E.assign rfl) ?_
  refine R.done ?_
  refine X.keep [(0, _)] ⟨rfl, trivial⟩ ?_
  refine X.next ?_
  refine C.seq ?_
  refine C.region ?_
  refine R.salloc1 hs Try.zr36 rfl rfl ?_
  intro b3 w3 hs
  refine R.done ?_
  refine X.keep [(0, _), (3, _)] ⟨rfl, rfl, trivial⟩ ?_
  refine X.next ?_
  refine C.seq ?_
  refine C.seq ?_
  refine C.region ?_
  refine R.ev rfl (E.move rfl) ?_
  refine R.call ⟨_, _, Try.func23, rfl, by kernel_rfl⟩ rfl rfl (all_any (ptr p) rfl hs) ?_
  rintro _ w4 ⟨b4, rfl, hs⟩
  refine R.done ?_
  refine X.keep [(3, _), (6, _)] ⟨rfl, rfl, trivial⟩ ?_
  refine X.next ?_
  refine C.block ?_
  refine C.rangeL (σ := List HEnt) (fun l G => ∃ v F1, G = row b3 36 [v] ++ F1 ∧ RowL 24 encH 36 v l F1) (fun l x => l ++ [x]) (fun _ => none) ([]) rfl rfl ⟨_, _, Try.func48, rfl, by kernel_rfl⟩ rfl (all1_iter (Hs := (row b3 36 [.slice none 0 0] ++ []) :: row b4 35 [ptr p] :: Hs) ho inferInstance inferInstance) (hs.nil.to) (⟨_, [], rfl, RowL.nil _ _ _⟩) rfl ?_ ?_
  · rintro l c ids G1 R1 pre x post w1 hx hids _ ⟨v, F1, rfl, r1⟩ hs
    have hl1 : ids.length < 1048576 := by
      rw [hids, foldl_snoc, List.nil_append]
      rw [hx] at hlen; simp at hlen; omega
    have hs : Sat K w1 (lpP l c .ready none :: row b3 36 [v] :: F1 :: R1) := hs.perm (by simp [List.append_assoc])
    obtain ⟨ad1, cap1, rfl, _⟩ := r1.val
    refine C.keep [(3, _), (7, _)] ⟨rfl, rfl, trivial⟩ ?_
    refine C.region ?_
    refine R.sallocA hs Try.zr29 rfl ?_
    intro b4 w4 hs
    first | refine R.cstoreAll hs rfl rfl Try.sz29 (by first | rfl | assumption | exact encV_len _ | exact Enc.len _ | exact len_ub (by assumption) | simp [*]) (by first | rfl | assumption | exact encV_len _ | exact Enc.len _ | exact len_ub (by assumption) | simp [*]) (by first | assumption | exact OneL.all | exact Enc.one _ | exact ub_all _ | (repeat' (first | refine List.forall_mem_cons.2 ⟨?_, ?_⟩ | exact List.forall_mem_nil _ | rfl | exact OneC.one | exact KRow.oneC' (by assumption)))) ?_ | refine R.cstore hs rfl rfl Try.sz29 (by first | rfl | assumption | exact encV_len _ | exact Enc.len _ | exact len_ub (by assumption) | simp [*]) (by simp [*]) (by first | assumption | exact OneL.all | exact Enc.one _ | exact ub_all _ | (repeat' (first | refine List.forall_mem_cons.2 ⟨?_, ?_⟩ | exact List.forall_mem_nil _ | rfl | exact OneC.one | exact KRow.oneC' (by assumption)))) ?_
    intro w3_1 hs
    try simp only [List.set_cons_zero, List.set_cons_succ] at hs
    refine R.done ?_
    refine X.keep [(3, _), (4, _)] ⟨rfl, rfl, trivial⟩ ?_
    refine X.begin_ (c := c) (pd := none) hs ?_
    intro wb0 hs
    refine C.keep [(3, _), (4, _)] ⟨rfl, rfl, trivial⟩ ?_
    refine C.block ?_
    refine C.drawn (SatS hs) ([0, 1], []) (by kernel_rfl) ?_
    have hs := hs.drew
    refine D.ev 0 rfl (by kernel_rfl) rfl hs.to (fun _ hS => E.load1 rfl Try.underlying36 rfl (by first | exact hS.ldc | exact hS.ld rfl | exact hS.ld (by assumption) | exact by assumption | exact At.cellC (by assumption) | exact At.cellC ((by assumption : ∀ w', Sat _ w' _ → At w' _ _ _) _ hS) | exact (by assumption : ∀ w', Sat _ w' _ → World.cell? w' _ = some _) _ hS)) ?_
    refine D.ev 1 rfl (by kernel_rfl) rfl hs.to (fun _ hS => E.loadRowC rfl Try.underlying29 rfl Try.sz29 (by first | exact ⟨hS.ldA, by first | rfl | assumption | exact encV_len _ | exact Enc.len _ | exact len_ub (by assumption)⟩ | exact ⟨hS.ldP rfl, by first | rfl | assumption | exact encV_len _ | exact Enc.len _ | exact len_ub (by assumption)⟩ | exact ⟨hS.ldM rfl rfl, by first | rfl | assumption | exact encV_len _ | exact Enc.len _ | exact len_ub (by assumption)⟩ | exact ⟨hS.ldM (by assumption) (by first | rfl | assumption), by first | rfl | assumption | exact encV_len _ | exact Enc.len _ | exact len_ub (by assumption)⟩ | exact ⟨by assumption, by first | rfl | assumption | exact encV_len _ | exact Enc.len _ | exact len_ub (by assumption)⟩ | exact ⟨(by assumption : ∀ w', Sat _ w' _ → At w' _ _ _) _ hS, by first | rfl | assumption | exact encV_len _ | exact Enc.len _ | exact len_ub (by assumption)⟩ | exact hS.ldp | exact At.partC (by assumption) | exact At.partC ((by assumption : ∀ w', Sat _ w' _ → At w' _ _ _) _ hS))) ?_
    refine D.act 2 rfl (by kernel_rfl) ?_
    refine R.call ⟨_, _, Try.func24, rfl, by kernel_rfl⟩ rfl rfl (of_any x hs) ?_
    rintro _ w42 ⟨rfl, hs⟩
    refine D.back hs.to ?_
    refine D.act 3 rfl (by kernel_rfl) ?_
    refine R.buildSliceA rfl Try.underlying36 Try.sz24 Try.zr24 rfl (by first | rfl | assumption | exact encV_len _ | exact Enc.len _ | simp [*]) (by decide) (by decide) ?_
    intro b11 w11 n11
    have hs := hs.new n11
    refine D.back hs.to ?_
    refine D.act 4 rfl (by kernel_rfl) ?_
    refine R.capp1 (x) hs rfl rfl Try.underlying36 Try.by24 (by rfl) rfl (by first | exact hs.ldA | exact hs.ldP rfl | exact by assumption) (by decide) (by first | omega | (simp only [List.length_append, List.length_cons, List.length_nil] at *; omega)) (by first | omega | (simp only [List.length_append, List.length_cons, List.length_nil] at *; omega)) ?_
    intro v12 w12 F12 r12 hs
    refine D.backT (by kernel_rfl) ?_
    refine D.act 5 rfl (by kernel_rfl) ?_
    refine R.cstore1 hs rfl rfl Try.sz36 (by first | decide | simp [*]) (by first | rfl | exact OneC.one | exact KRow.oneC' (by assumption)) ?_
    intro w4_5 hs
    try simp only [List.set_cons_zero, List.set_cons_succ] at hs
    refine D.backT (by kernel_rfl) ?_
    refine D.done rfl (by kernel_rfl) ?_
    refine X.keep [(3, _)] ⟨rfl, trivial⟩ ?_
    refine X.blockNormal ?_
    refine X.rndEnd (c := c) (st := .busy) (pd := none) hs ?_
    intro we0 hs
    exact ⟨rfl, _, ⟨v12, F12, rfl, r12⟩, show Sat K _ (lpP l c .ready none :: _ :: R1) from hs.to⟩
  · rintro D0 G2 w2 hb2 hs
    rw [runO_all (fun _ _ => rfl), foldl_snoc, List.nil_append] at hb2
    obtain ⟨v5, F5, rfl, r5⟩ := hb2
    show X _ .normal _ _ _
    have hs : Sat K w2 (row b3 36 [v5] :: F5 :: dfP D0 (some []) :: Hs) := (hs.perm (Hs' := row b3 36 [v5] :: F5 :: dfP D0 (some []) :: row b4 35 [ptr p] :: Hs) (by simp [List.append_assoc])).to
    obtain ⟨ad5, cap5, rfl, _⟩ := r5.val
    refine X.keep [(3, _)] ⟨rfl, trivial⟩ ?_
    refine X.blockNormal ?_
    refine X.next ?_
    refine C.seq ?_
    refine C.region ?_
    refine R.ev rfl (E.load1 rfl Try.underlying36 rfl (by first | exact hs.ldc | exact hs.ld rfl | exact hs.ld (by assumption) | exact by assumption | exact At.cellC (by assumption))) ?_
    refine R.ev rfl (E.assign rfl) ?_
    refine R.done ?_
    refine X.keep [(2, _)] ⟨rfl, trivial⟩ ?_
    refine X.next ?_
    refine C.ret ?_
    refine X.mark (D := D0) hs ?_
    intro wm0 hs
    refine X.ret1 rfl rfl ?_
    exact ⟨F5, r5, hs.to⟩
theorem play_any {ad : Option Addr} {n cap : Nat} {ops : List Op25} (hs : Sat K w Hs) [hr : KRow encO 37 K (.slice ad n cap) ops] (hn : ops.length ≤ 9223372036854775807) : Ret Try.prog 17 #[.slice ad n cap] w fun r w' =>
    ∃ K' p s L v F, r = .tuple #[ptr p, v, .int .i64 s.cut, .bool true] ∧ KLe K K' ∧ KRow encH 36 K' v L ∧ PInv 40 s L ∧ HiL p s F ∧ Sat K' w' (F :: Hs) := by
  obtain ⟨ad0, cap0, he, hsl, hc⟩ := hr.ex
  simp only [Value.slice.injEq] at he
  obtain ⟨rfl, rfl, rfl⟩ := he
  refine Ret.enter (n := 115) (args := [.slice ad ops.length cap]) Try.func17 rfl rfl ?_
  refine C.keep [(0, _)] ⟨rfl, trivial⟩ ?_
  refine C.seq ?_
  refine C.region ?_
  refine R.ev rfl (E.assign rfl) ?_
  refine R.ev rfl (E.assign rfl) ?_
  refine R.ev rfl (E.assign rfl) ?_
  refine R.ev rfl (E.assign rfl) ?_
  refine R.done ?_
  refine X.keep [(0, _), (3, _), (4, _)] ⟨rfl, rfl, rfl, trivial⟩ ?_
  refine X.next ?_
  refine C.seq ?_
  refine C.region ?_
  refine R.call ⟨_, _, Try.func40, rfl, by kernel_rfl⟩ rfl rfl (new_any hs) ?_
  rintro _ w1 ⟨p, F, rfl, hw, hs⟩
  refine R.ev rfl (E.assign rfl) ?_
  refine R.done ?_
  refine X.keep [(0, _), (2, _), (3, _), (4, _)] ⟨rfl, rfl, rfl, rfl, trivial⟩ ?_
  refine X.next ?_
  refine C.seq ?_
  refine C.seq ?_
  refine C.region ?_
  refine R.ev rfl (E.assign rfl) ?_
  refine R.done ?_
  refine X.keep [(0, _), (2, _), (3, _), (4, _), (6, _)] ⟨rfl, rfl, rfl, rfl, rfl, trivial⟩ ?_
  refine X.next ?_
  refine C.block ?_
  refine C.loop (T := Nat × Kn × Hi × List HEnt × Value × Hl) [(0, _)] (fun (k, _, s, _, v, _) => [(2, ptr p), (3, v), (4, .int .i64 s.cut), (6, .int .i64 (k : Nat))]) (fun (k, K1, s, L, v, F1) w' => k ≤ ops.length ∧ k ≤ 40 ∧ KLe K K1 ∧ KRow encH 36 K1 v L ∧ PInv k s L ∧ HiL p s F1 ∧ Sat K1 w' (F1 :: Hs)) (fun (k, _) => 40 - k) ((0, K, ⟨[], 0⟩, [], .slice none 0 0, F)) ⟨rfl, rfl, rfl, rfl, rfl, trivial⟩ ⟨Nat.zero_le _, Nat.zero_le _, KLe.refl K, KRow.nil, PInv.start, hw, hs⟩ ?_
  rintro ⟨k, K1, s, L, v, F1⟩ w2 ⟨hk, hk40, hk1, hr1, hI, hw1, hs⟩
  have o1 : OneC v := ⟨KRow.oneC' hr1⟩
  have hIl := hI.len
  have hIm := hI.mlen
  refine C.keep [(0, _), (2, _), (3, _), (4, _), (6, _)] ⟨rfl, rfl, rfl, rfl, rfl, trivial⟩ ?_
  refine C.seq ?_
  refine C.seq ?_
  refine C.region ?_
  refine R.ev rfl (E.move rfl) ?_
  refine R.ev rfl (E.move rfl) ?_
  refine R.ev rfl (E.lenSl rfl Try.underlying34) ?_
  refine R.ev rfl (E.lss rfl rfl) ?_
  refine R.ev rfl (E.move rfl) ?_
  refine R.split 19 rfl (fun h19 => ?_) (fun h19 => ?_)
  · refine R.gyes rfl rfl ?_
    refine R.ev rfl (E.move rfl) ?_
    refine R.gyes rfl rfl ?_
    refine R.ev rfl (E.lss rfl rfl) ?_
    refine R.ev rfl (E.pickT rfl rfl) ?_
    refine R.done ?_
    refine X.keep [(0, _), (2, _), (3, _), (4, _), (6, _), (22, _)] ⟨rfl, rfl, rfl, rfl, rfl, rfl, trivial⟩ ?_
    refine X.next ?_
    refine C.cbool rfl (fun h22 => ?_) (fun h22 => ?_)
    · refine C.skip ?_
      refine X.next ?_
      refine C.seq ?_
      refine C.block ?_
      refine C.seq ?_
      refine C.region ?_
      have hk2 : k < 40 := by have := of_decide_eq_true h22; omega
      have hkl : k < ops.length := by have := of_decide_eq_true h19; omega
      obtain ⟨y, bk_y, of_y, hy, my, ly, rfl, Ay⟩ := hs.el (i := k) (ad := ad) (n := ops.length) (c := cap) ((by have := of_decide_eq_true h19; omega))
      have ay := Ay _ hs
      refine R.ev rfl (E.move rfl) ?_
      refine R.ev rfl (E.move rfl) ?_
      refine R.ev rfl (E.indexAddr (i := k) rfl rfl Try.underlying34 Try.sz44 rfl (by have := of_decide_eq_true h19; omega)) ?_
      first | refine R.ev rfl (E.fieldAddr0 1 rfl Try.underlying44 rfl Try.sz24 rfl) ?_ | refine R.ev rfl (E.fieldAddrN 1 rfl Try.underlying44 rfl Try.sz24 rfl) ?_
      refine R.ev rfl (E.loadRowC rfl Try.underlying24 rfl Try.sz24 (At.partC ay)) ?_
      refine R.sallocA hs Try.zr24 rfl ?_
      intro b7 w7 hs
      first | refine R.cstoreAll hs rfl rfl Try.sz24 (by first | rfl | assumption | exact encV_len _ | exact Enc.len _ | exact len_ub (by assumption) | simp [*]) (by first | rfl | assumption | exact encV_len _ | exact Enc.len _ | exact len_ub (by assumption) | simp [*]) (by first | assumption | exact OneL.all | exact Enc.one _ | exact ub_all _ | (repeat' (first | refine List.forall_mem_cons.2 ⟨?_, ?_⟩ | exact List.forall_mem_nil _ | rfl | exact OneC.one | exact KRow.oneC' (by assumption)))) ?_ | refine R.cstore hs rfl rfl Try.sz24 (by first | rfl | assumption | exact encV_len _ | exact Enc.len _ | exact len_ub (by assumption) | simp [*]) (by simp [*]) (by first | assumption | exact OneL.all | exact Enc.one _ | exact ub_all _ | (repeat' (first | refine List.forall_mem_cons.2 ⟨?_, ?_⟩ | exact List.forall_mem_nil _ | rfl | exact OneC.one | exact KRow.oneC' (by assumption)))) ?_
      intro w5_6 hs
      try simp only [List.set_cons_zero, List.set_cons_succ] at hs
      refine R.done ?_
      refine X.keep [(0, _), (2, _), (3, _), (4, _), (6, _), (7, _)] ⟨rfl, rfl, rfl, rfl, rfl, rfl, trivial⟩ ?_
      refine X.next ?_
      refine C.seq ?_
      refine C.region ?_
      refine R.ev rfl (E.assign rfl) ?_
      refine R.done ?_
      refine X.keep [(0, _), (2, _), (3, _), (4, _), (6, _), (7, _)] ⟨rfl, rfl, rfl, rfl, rfl, rfl, trivial⟩ ?_
      refine X.next ?_
      refine C.seq ?_
      refine C.region ?_
      replace ay := Ay _ hs.to
      refine R.ev rfl (E.move rfl) ?_
      refine R.ev rfl (E.move rfl) ?_
      refine R.ev rfl (E.indexAddr (i := k) rfl rfl Try.underlying34 Try.sz44 rfl (by have := of_decide_eq_true h19; omega)) ?_
      first | refine R.ev rfl (E.fieldAddr0 0 rfl Try.underlying44 rfl Try.sz5 rfl) ?_ | refine R.ev rfl (E.fieldAddrN 0 rfl Try.underlying44 rfl Try.sz5 rfl) ?_
      refine R.ev rfl (E.load1 rfl Try.underlying5 rfl (by first | exact hs.ldc | exact hs.ld rfl | exact hs.ld (by assumption) | exact by assumption | exact At.cellC (by assumption))) ?_
      refine R.ev rfl (E.rem rfl rfl (by omega) (by omega)) ?_
      refine R.done ?_
      refine X.keep [(0, _), (2, _), (3, _), (4, _), (6, _), (7, _), (35, _)] ⟨rfl, rfl, rfl, rfl, rfl, rfl, rfl, trivial⟩ ?_
      refine X.next ?_
      refine C.block ?_
      refine C.seq ?_
      refine C.region ?_
      refine R.ev rfl (E.eql rfl rfl) ?_
      refine R.ev rfl (E.assign rfl) ?_
      refine R.done ?_
      refine X.keep [(0, _), (2, _), (3, _), (4, _), (6, _), (7, _), (35, _), (77, _)] ⟨rfl, rfl, rfl, rfl, rfl, rfl, rfl, rfl, trivial⟩ ?_
      refine X.next ?_
      refine C.cdec rfl (fun h77 => ?_) (fun h77 => ?_)
      · refine C.seq ?_
        refine C.region ?_
        refine R.ev rfl (E.move rfl) ?_
        refine R.ev rfl (E.loadRowC rfl Try.underlying24 rfl Try.sz24 (by first | exact ⟨hs.ldA, by first | rfl | assumption | exact encV_len _ | exact Enc.len _ | exact len_ub (by assumption)⟩ | exact ⟨hs.ldP rfl, by first | rfl | assumption | exact encV_len _ | exact Enc.len _ | exact len_ub (by assumption)⟩ | exact ⟨hs.ldM rfl rfl, by first | rfl | assumption | exact encV_len _ | exact Enc.len _ | exact len_ub (by assumption)⟩ | exact ⟨hs.ldM (by assumption) (by first | rfl | assumption), by first | rfl | assumption | exact encV_len _ | exact Enc.len _ | exact len_ub (by assumption)⟩ | exact ⟨by assumption, by first | rfl | assumption | exact encV_len _ | exact Enc.len _ | exact len_ub (by assumption)⟩ | exact hs.ldp | exact At.partC (by assumption))) ?_
        refine R.call ⟨_, _, Try.func43, rfl, by kernel_rfl⟩ rfl rfl (radd_any y.x hs (by omega)) ?_
        rintro _ w19 ⟨K3, v3, rfl, hk3, hr3, hs⟩
        have o3 : OneC v3 := ⟨KRow.oneC' hr3⟩
        refine R.ev rfl (E.move rfl) ?_
        refine R.ev rfl (E.extract rfl rfl) ?_
        refine R.ev rfl (E.extract rfl rfl) ?_
        refine R.ev rfl (E.assign rfl) ?_
        refine R.ev rfl (E.assign rfl) ?_
        refine R.done ?_
        refine X.keep [(0, _), (2, _), (3, _), (4, _), (6, _), (7, _), (8, _)] ⟨rfl, rfl, rfl, rfl, rfl, rfl, rfl, trivial⟩ ?_
        refine X.next ?_
        refine C.seq ?_
        refine C.region ?_
        refine R.ev rfl (E.move rfl) ?_
        refine R.ev rfl (E.loadRowC rfl Try.underlying24 rfl Try.sz24 (by first | exact ⟨hs.ldA, by first | rfl | assumption | exact encV_len _ | exact Enc.len _ | exact len_ub (by assumption)⟩ | exact ⟨hs.ldP rfl, by first | rfl | assumption | exact encV_len _ | exact Enc.len _ | exact len_ub (by assumption)⟩ | exact ⟨hs.ldM rfl rfl, by first | rfl | assumption | exact encV_len _ | exact Enc.len _ | exact len_ub (by assumption)⟩ | exact ⟨hs.ldM (by assumption) (by first | rfl | assumption), by first | rfl | assumption | exact encV_len _ | exact Enc.len _ | exact len_ub (by assumption)⟩ | exact ⟨by assumption, by first | rfl | assumption | exact encV_len _ | exact Enc.len _ | exact len_ub (by assumption)⟩ | exact hs.ldp | exact At.partC (by assumption))) ?_
        refine R.call ⟨_, _, Try.func14, rfl, by kernel_rfl⟩ rfl rfl (to_any y.x hs) ?_
        rintro _ w202 ⟨rfl, hs⟩
        refine R.call ⟨_, _, Try.func20, rfl, by kernel_rfl⟩ rfl rfl (add_any y.x (hs.front (F := F1))) ?_
        rintro _ w203 ⟨rfl, F3, hw3, hs1⟩
        have hs := hs.back (F := F1) hs1
        refine R.ev rfl (E.move rfl) ?_
        refine R.ev rfl ((E.neq rfl rfl).isF (by rw [hI.ord.addE _ (by omega)]; simp)) ?_
        have hI3 := hI.add y.x (by omega)
        have hcut : s.cut = (s.addS y.x).cut := (addS_cut _).symm
        generalize s.addS y.x = s3 at hI3 hcut hw3
        generalize rAddL L y.x = L3 at hI3 hr3
        refine R.done ?_
        refine X.keep [(0, _), (2, _), (3, _), (4, _), (6, _), (90, _)] ⟨rfl, rfl, rfl, rfl, rfl, rfl, trivial⟩ ?_
        refine X.next ?_
        refine C.cfalse rfl ?_
        refine C.skip ?_
        refine X.blockNormal ?_
        refine X.blockNormal ?_
        refine X.next ?_
        refine C.region ?_
        refine R.ev rfl (E.move rfl) ?_
        refine R.ev rfl (E.add rfl rfl (by omega) (by omega)) ?_
        refine R.ev rfl (E.assign rfl) ?_
        refine R.done ?_
        refine X.keep [(0, _), (2, _), (3, _), (4, _), (6, _)] ⟨rfl, rfl, rfl, rfl, rfl, trivial⟩ ?_
        exact X.again (k + 1, K3, s3, L3, v3, F3) ⟨rfl, rfl, lkV rfl (congrArg (Value.int .i64) hcut), rfl, rfl, trivial⟩ ⟨by omega, by omega, hk1.trans hk3, hr3, hI3, hw3, hs.to⟩ (by show _ - _ < _ - _; omega)
      · refine C.seq ?_
        refine C.region ?_
        refine R.ev rfl (E.eql rfl rfl) ?_
        refine R.ev rfl (E.assign rfl) ?_
        refine R.done ?_
        refine X.keep [(0, _), (2, _), (3, _), (4, _), (6, _), (7, _), (94, _)] ⟨rfl, rfl, rfl, rfl, rfl, rfl, rfl, trivial⟩ ?_
        refine X.next ?_
        refine C.cdec rfl (fun h94 => ?_) (fun h94 => ?_)
        · refine C.seq ?_
          refine C.region ?_
          refine R.ev rfl (E.move rfl) ?_
          first | refine R.ev rfl (E.fieldAddr0 0 rfl Try.underlying24 rfl Try.sz22 rfl) ?_ | refine R.ev rfl (E.fieldAddrN 0 rfl Try.underlying24 rfl Try.sz22 rfl) ?_
          refine R.ev rfl (E.loadRowC rfl Try.underlying22 rfl Try.sz22 (by first | exact ⟨hs.ldA, by first | rfl | assumption | exact encV_len _ | exact Enc.len _ | exact len_ub (by assumption)⟩ | exact ⟨hs.ldP rfl, by first | rfl | assumption | exact encV_len _ | exact Enc.len _ | exact len_ub (by assumption)⟩ | exact ⟨hs.ldM rfl rfl, by first | rfl | assumption | exact encV_len _ | exact Enc.len _ | exact len_ub (by assumption)⟩ | exact ⟨hs.ldM (by assumption) (by first | rfl | assumption), by first | rfl | assumption | exact encV_len _ | exact Enc.len _ | exact len_ub (by assumption)⟩ | exact ⟨by assumption, by first | rfl | assumption | exact encV_len _ | exact Enc.len _ | exact len_ub (by assumption)⟩ | exact hs.ldp | exact At.partC (by assumption))) ?_
          refine R.call ⟨_, _, Try.func44, rfl, by kernel_rfl⟩ rfl rfl (rsetGone_any y.x.id hs (by omega)) ?_
          rintro _ w23 ⟨K3, v3, rfl, hk3, hr3, hs⟩
          have o3 : OneC v3 := ⟨KRow.oneC' hr3⟩
          refine R.ev rfl (E.move rfl) ?_
          refine R.ev rfl (E.extract rfl rfl) ?_
          refine R.ev rfl (E.extract rfl rfl) ?_
          refine R.ev rfl (E.assign rfl) ?_
          refine R.ev rfl (E.assign rfl) ?_
          refine R.done ?_
          refine X.keep [(0, _), (2, _), (3, _), (4, _), (6, _), (7, _), (8, _)] ⟨rfl, rfl, rfl, rfl, rfl, rfl, rfl, trivial⟩ ?_
          refine X.next ?_
          refine C.seq ?_
          refine C.region ?_
          refine R.ev rfl (E.move rfl) ?_
          first | refine R.ev rfl (E.fieldAddr0 0 rfl Try.underlying24 rfl Try.sz22 rfl) ?_ | refine R.ev rfl (E.fieldAddrN 0 rfl Try.underlying24 rfl Try.sz22 rfl) ?_
          refine R.ev rfl (E.loadRowC rfl Try.underlying22 rfl Try.sz22 (by first | exact ⟨hs.ldA, by first | rfl | assumption | exact encV_len _ | exact Enc.len _ | exact len_ub (by assumption)⟩ | exact ⟨hs.ldP rfl, by first | rfl | assumption | exact encV_len _ | exact Enc.len _ | exact len_ub (by assumption)⟩ | exact ⟨hs.ldM rfl rfl, by first | rfl | assumption | exact encV_len _ | exact Enc.len _ | exact len_ub (by assumption)⟩ | exact ⟨hs.ldM (by assumption) (by first | rfl | assumption), by first | rfl | assumption | exact encV_len _ | exact Enc.len _ | exact len_ub (by assumption)⟩ | exact ⟨by assumption, by first | rfl | assumption | exact encV_len _ | exact Enc.len _ | exact len_ub (by assumption)⟩ | exact hs.ldp | exact At.partC (by assumption))) ?_
          refine R.call ⟨_, _, Try.func21, rfl, by kernel_rfl⟩ rfl rfl (setGone_any y.x.id (hs.front (F := F1))) ?_
          rintro _ w24 ⟨rfl, F3, hw3, hs1⟩
          have hs := hs.back (F := F1) hs1
          refine R.ev rfl (E.move rfl) ?_
          refine R.ev rfl ((E.neq rfl rfl).isF (by rw [hI.ord.goneE]; simp)) ?_
          have hI3 := (hI.gone y.x.id).mono (show k ≤ k + 1 by omega)
          have hcut : s.cut = (s.goneS y.x.id).cut := (goneS_cut _).symm
          generalize s.goneS y.x.id = s3 at hI3 hcut hw3
          generalize rGoneL L y.x.id = L3 at hI3 hr3
          refine R.done ?_
          refine X.keep [(0, _), (2, _), (3, _), (4, _), (6, _), (108, _)] ⟨rfl, rfl, rfl, rfl, rfl, rfl, trivial⟩ ?_
          refine X.next ?_
          refine C.cfalse rfl ?_
          refine C.skip ?_
          refine X.blockNormal ?_
          refine X.blockNormal ?_
          refine X.next ?_
          refine C.region ?_
          refine R.ev rfl (E.move rfl) ?_
          refine R.ev rfl (E.add rfl rfl (by omega) (by omega)) ?_
          refine R.ev rfl (E.assign rfl) ?_
          refine R.done ?_
          refine X.keep [(0, _), (2, _), (3, _), (4, _), (6, _)] ⟨rfl, rfl, rfl, rfl, rfl, trivial⟩ ?_
          exact X.again (k + 1, K3, s3, L3, v3, F3) ⟨rfl, rfl, lkV rfl (congrArg (Value.int .i64) hcut), rfl, rfl, trivial⟩ ⟨by omega, by omega, hk1.trans hk3, hr3, hI3, hw3, hs.to⟩ (by show _ - _ < _ - _; omega)
        · refine C.seq ?_
          refine C.region ?_
          refine R.ev rfl (E.move rfl) ?_
          refine R.ev rfl (E.move rfl) ?_
          first | refine R.ev rfl (E.fieldAddr0 32 rfl Try.underlying24 rfl Try.sz3 rfl) ?_ | refine R.ev rfl (E.fieldAddrN 32 rfl Try.underlying24 rfl Try.sz3 rfl) ?_
          refine R.ev rfl (E.load1 rfl Try.underlying3 rfl (by first | exact hs.ldc | exact hs.ld rfl | exact hs.ld (by assumption) | exact by assumption | exact At.cellC (by assumption))) ?_
          refine R.call ⟨_, _, Try.func45, rfl, by kernel_rfl⟩ rfl rfl (rforget_any s.cut y.x.arr hs (by omega)) ?_
          rintro _ w8 ⟨v8, F8, r8, K3, v3, rfl, hk3, hr3, hs⟩
          have o3 : OneC v3 := ⟨KRow.oneC' hr3⟩
          obtain ⟨ad8, cap8, rfl, _⟩ := r8.val
          refine R.ev rfl (E.move rfl) ?_
          refine R.ev rfl (E.extract rfl rfl) ?_
          refine R.ev rfl (E.extract rfl rfl) ?_
          refine R.ev rfl (E.extract rfl rfl) ?_
          refine R.ev rfl (E.assign rfl) ?_
          refine R.ev rfl (E.assign rfl) ?_
          refine R.ev rfl (E.assign rfl) ?_
          refine R.done ?_
          refine X.keep [(0, _), (2, _), (3, _), (4, _), (6, _), (7, _), (9, _), (10, _), (11, _)] ⟨rfl, rfl, rfl, rfl, rfl, rfl, rfl, rfl, rfl, trivial⟩ ?_
          refine X.next ?_
          refine C.seq ?_
          refine C.region ?_
          refine R.ev rfl (E.move rfl) ?_
          first | refine R.ev rfl (E.fieldAddr0 32 rfl Try.underlying24 rfl Try.sz3 rfl) ?_ | refine R.ev rfl (E.fieldAddrN 32 rfl Try.underlying24 rfl Try.sz3 rfl) ?_
          refine R.ev rfl (E.load1 rfl Try.underlying3 rfl (by first | exact hs.ldc | exact hs.ld rfl | exact hs.ld (by assumption) | exact by assumption | exact At.cellC (by assumption))) ?_
          refine R.call ⟨_, _, Try.func22, rfl, by kernel_rfl⟩ rfl rfl (forget_any y.x.arr hI.ord (hs.front (F := F1))) ?_
          rintro v9 w9 ⟨F9, G9, r9, hw9, hs1⟩
          have hs := hs.back2 (F := F1) hs1
          rw [fgR_eq] at r9
          obtain ⟨ad9, cap9, rfl, _⟩ := r9.val
          have hfl := rFIds_le y.x.arr L
          refine R.ev rfl (E.assign rfl) ?_
          refine R.done ?_
          refine X.keep [(0, _), (2, _), (3, _), (4, _), (6, _), (9, _), (10, _), (11, _), (12, _)] ⟨rfl, rfl, rfl, rfl, rfl, rfl, rfl, rfl, rfl, trivial⟩ ?_
          refine X.next ?_
          refine C.seq ?_
          refine C.seq ?_
          refine C.region ?_
          refine R.ev rfl (E.move rfl) ?_
          refine R.ev rfl (E.lenSl rfl Try.underlying46) ?_
          refine R.ev rfl (E.move rfl) ?_
          refine R.ev rfl (E.lenSl rfl Try.underlying83) ?_
          refine R.ev rfl ((E.neq rfl rfl).isF (by simp)) ?_
          refine R.done ?_
          refine X.keep [(0, _), (2, _), (3, _), (4, _), (6, _), (9, _), (10, _), (11, _), (12, _), (53, _)] ⟨rfl, rfl, rfl, rfl, rfl, rfl, rfl, rfl, rfl, rfl, trivial⟩ ?_
          refine X.next ?_
          refine C.cfalse rfl ?_
          refine C.skip ?_
          refine X.next ?_
          refine C.seq ?_
          refine C.seq ?_
          refine C.region ?_
          refine R.ev rfl (E.assign rfl) ?_
          refine R.done ?_
          refine X.keep [(0, _), (2, _), (3, _), (4, _), (6, _), (9, _), (10, _), (11, _), (12, _), (13, _)] ⟨rfl, rfl, rfl, rfl, rfl, rfl, rfl, rfl, rfl, rfl, trivial⟩ ?_
          refine X.next ?_
          refine C.block ?_
          refine C.loop (T := Nat) [(0, _), (6, _), (9, _), (10, _), (11, _), (12, _)] (fun j => [(2, ptr p), (3, v), (4, .int .i64 s.cut), (13, .int .i64 (j : Nat))]) (fun j w' => j ≤ (rFIds y.x.arr L).length ∧ Sat K3 w' (G9 :: F8 :: F9 :: Hs)) (fun j => (rFIds y.x.arr L).length - j) (0) ⟨rfl, rfl, rfl, rfl, rfl, rfl, rfl, rfl, rfl, rfl, trivial⟩ ⟨Nat.zero_le _, hs.to⟩ ?_
          rintro j w10 ⟨hj, hs⟩
          refine C.keep [(0, _), (2, _), (3, _), (4, _), (6, _), (9, _), (10, _), (11, _), (12, _), (13, _)] ⟨rfl, rfl, rfl, rfl, rfl, rfl, rfl, rfl, rfl, rfl, trivial⟩ ?_
          refine C.seq ?_
          refine C.seq ?_
          refine C.region ?_
          refine R.ev rfl (E.move rfl) ?_
          refine R.ev rfl (E.move rfl) ?_
          refine R.ev rfl (E.lenSl rfl Try.underlying46) ?_
          refine R.ev rfl (E.lss rfl rfl) ?_
          refine R.done ?_
          refine X.keep [(0, _), (2, _), (3, _), (4, _), (6, _), (9, _), (10, _), (11, _), (12, _), (13, _), (60, _)] ⟨rfl, rfl, rfl, rfl, rfl, rfl, rfl, rfl, rfl, rfl, rfl, trivial⟩ ?_
          refine X.next ?_
          refine C.cdec rfl (fun h60 => ?_) (fun h60 => ?_)
          · obtain ⟨a, bk_a, of_a, ha, ma, la, rfl, Aa⟩ := hs.el (i := j) (ad := ad9) (n := (rFIds y.x.arr L).length) (c := cap9) (by omega)
            obtain ⟨b, bk_b, of_b, hb, mb, lb, rfl, Ab⟩ := hs.el (i := j) (ad := ad8) (n := (rFIds y.x.arr L).length) (c := cap8) (by omega)
            obtain rfl : a = b := by rw [ha] at hb; simpa using hb
            refine C.skip ?_
            refine X.next ?_
            refine C.seq ?_
            refine C.block ?_
            refine C.seq ?_
            refine C.drawn (SatS hs) ([3, 7], [0, 1, 2, 4, 5, 6, 8]) (by kernel_rfl) ?_
            have hs := hs.drew
            refine D.evP 0 rfl (by kernel_rfl) rfl (fun _ => hs.to) (fun _ => E.move rfl) ?_
            refine D.evP 1 rfl (by kernel_rfl) rfl (fun _ => hs.to) (fun _ => E.move rfl) ?_
            refine D.evP 2 rfl (by kernel_rfl) rfl (fun _ => hs.to) (fun _ => E.indexAddr rfl rfl Try.underlying46 Try.sz27 rfl (by first | omega | decide)) ?_
            refine D.evP 4 rfl (by kernel_rfl) rfl (fun _ => hs.to) (fun _ => E.move rfl) ?_
            refine D.evP 5 rfl (by kernel_rfl) rfl (fun _ => hs.to) (fun _ => E.move rfl) ?_
            refine D.evP 6 rfl (by kernel_rfl) rfl (fun _ => hs.to) (fun _ => E.indexAddr rfl rfl Try.underlying83 Try.sz22 rfl (by first | omega | decide)) ?_
            refine D.ev 3 rfl (by kernel_rfl) rfl hs.to (fun _ hS => E.loadRowC rfl Try.underlying27 rfl Try.sz27 (by first | exact ⟨hS.ldA, by first | rfl | assumption | exact encV_len _ | exact Enc.len _ | exact len_ub (by assumption)⟩ | exact ⟨hS.ldP rfl, by first | rfl | assumption | exact encV_len _ | exact Enc.len _ | exact len_ub (by assumption)⟩ | exact ⟨hS.ldM rfl rfl, by first | rfl | assumption | exact encV_len _ | exact Enc.len _ | exact len_ub (by assumption)⟩ | exact ⟨hS.ldM (by assumption) (by first | rfl | assumption), by first | rfl | assumption | exact encV_len _ | exact Enc.len _ | exact len_ub (by assumption)⟩ | exact ⟨by assumption, by first | rfl | assumption | exact encV_len _ | exact Enc.len _ | exact len_ub (by assumption)⟩ | exact ⟨(by assumption : ∀ w', Sat _ w' _ → At w' _ _ _) _ hS, by first | rfl | assumption | exact encV_len _ | exact Enc.len _ | exact len_ub (by assumption)⟩ | exact hS.ldp | exact At.partC (by assumption) | exact At.partC ((by assumption : ∀ w', Sat _ w' _ → At w' _ _ _) _ hS))) ?_
            refine D.ev 7 rfl (by kernel_rfl) rfl hs.to (fun _ hS => E.loadRowC rfl Try.underlying22 rfl Try.sz22 (by first | exact ⟨hS.ldA, by first | rfl | assumption | exact encV_len _ | exact Enc.len _ | exact len_ub (by assumption)⟩ | exact ⟨hS.ldP rfl, by first | rfl | assumption | exact encV_len _ | exact Enc.len _ | exact len_ub (by assumption)⟩ | exact ⟨hS.ldM rfl rfl, by first | rfl | assumption | exact encV_len _ | exact Enc.len _ | exact len_ub (by assumption)⟩ | exact ⟨hS.ldM (by assumption) (by first | rfl | assumption), by first | rfl | assumption | exact encV_len _ | exact Enc.len _ | exact len_ub (by assumption)⟩ | exact ⟨by assumption, by first | rfl | assumption | exact encV_len _ | exact Enc.len _ | exact len_ub (by assumption)⟩ | exact ⟨(by assumption : ∀ w', Sat _ w' _ → At w' _ _ _) _ hS, by first | rfl | assumption | exact encV_len _ | exact Enc.len _ | exact len_ub (by assumption)⟩ | exact hS.ldp | exact At.partC (by assumption) | exact At.partC ((by assumption : ∀ w', Sat _ w' _ → At w' _ _ _) _ hS))) ?_
            first | refine D.evP 8 rfl (by kernel_rfl) rfl (fun _ => hs.to) (fun _ => (E.neV 10 rfl rfl Try.lv22 rfl Try.underlying22 rfl Try.gd22).isF (by simp)) ?_ | refine D.evP 8 rfl (by kernel_rfl) rfl (fun _ => hs.to) (fun _ => (E.neId 10 32 rfl rfl Try.lv22 rfl Try.underlying22 rfl Try.gd22 (by assumption) (by assumption)).isF (by simp)) ?_
            refine D.done rfl (by kernel_rfl) ?_
            refine X.keep [(0, _), (2, _), (3, _), (4, _), (6, _), (9, _), (10, _), (11, _), (12, _), (13, _), (71, _)] ⟨rfl, rfl, rfl, rfl, rfl, rfl, rfl, rfl, rfl, rfl, rfl, trivial⟩ ?_
            refine X.next ?_
            refine C.cfalse rfl ?_
            refine C.skip ?_
            refine X.blockNormal ?_
            refine X.next ?_
            refine C.region ?_
            refine R.ev rfl (E.move rfl) ?_
            refine R.ev rfl (E.add rfl rfl (by omega) (by omega)) ?_
            refine R.ev rfl (E.assign rfl) ?_
            refine R.done ?_
            refine X.keep [(0, _), (2, _), (3, _), (4, _), (6, _), (9, _), (10, _), (11, _), (12, _), (13, _)] ⟨rfl, rfl, rfl, rfl, rfl, rfl, rfl, rfl, rfl, rfl, trivial⟩ ?_
            exact X.again (j + 1) ⟨rfl, rfl, rfl, rfl, rfl, rfl, rfl, rfl, rfl, rfl, trivial⟩ ⟨by omega, hs.to⟩ (by omega)
          · refine C.exit ?_
            refine X.thenExit ?_
            refine X.loopExit ?_
            refine X.blockExit ?_
            refine X.next ?_
            refine C.region ?_
            have hI3 := (hI.forget y.x.arr).mono (show k ≤ k + 1 by omega)
            have hcut := (Ord.fgCut (s := s) (L := L) y.x.arr).symm
            have hw3 := hw9
            generalize s.fgS y.x.arr L = s3 at hI3 hcut hw3
            generalize rFRest y.x.arr L = L3 at hI3 hr3
            have hs : Sat K3 _ (F9 :: Hs) := hs.to
            generalize F9 = F3 at hs hw3
            refine R.ev rfl (E.move rfl) ?_
            refine R.ev rfl (E.move rfl) ?_
            refine R.ev rfl (E.assign rfl) ?_
            refine R.ev rfl (E.assign rfl) ?_
            refine R.done ?_
            refine X.keep [(0, _), (2, _), (3, _), (4, _), (6, _)] ⟨rfl, rfl, rfl, rfl, rfl, trivial⟩ ?_
            refine X.blockNormal ?_
            refine X.blockNormal ?_
            refine X.next ?_
            refine C.region ?_
            refine R.ev rfl (E.move rfl) ?_
            refine R.ev rfl (E.add rfl rfl (by omega) (by omega)) ?_
            refine R.ev rfl (E.assign rfl) ?_
            refine R.done ?_
            refine X.keep [(0, _), (2, _), (3, _), (4, _), (6, _)] ⟨rfl, rfl, rfl, rfl, rfl, trivial⟩ ?_
            exact X.again (k + 1, K3, s3, L3, v3, F3) ⟨rfl, rfl, lkV rfl (congrArg (Value.int .i64) hcut), rfl, rfl, trivial⟩ ⟨by omega, by omega, hk1.trans hk3, hr3, hI3, hw3, hs.to⟩ (by show _ - _ < _ - _; omega)
    · refine C.exit ?_
      refine X.thenExit ?_
      refine X.loopExit ?_
      refine X.blockExit ?_
      refine X.next ?_
      refine C.seq ?_
      refine C.region ?_
      refine R.ev rfl (E.move rfl) ?_
      refine R.ev rfl (E.move rfl) ?_
      refine R.ev rfl (E.move rfl) ?_
      refine R.ev rfl (E.assign rfl) ?_
      refine R.ev rfl (E.assign rfl) ?_
      refine R.ev rfl (E.assign rfl) ?_
      refine R.ev rfl (E.assign rfl) ?_
      refine R.done ?_
      refine X.keep [(2, _), (3, _), (4, _), (5, _)] ⟨rfl, rfl, rfl, rfl, trivial⟩ ?_
      refine X.next ?_
      refine C.ret ?_
      refine X.resTTTT rfl rfl rfl rfl rfl ?_
      exact ⟨K1, p, s, L, v, F1, rfl, hk1, hr1, hI.mono hk40, hw1, hs.to⟩
  · refine R.gskip rfl rfl rfl ?_
    refine R.gskip rfl rfl rfl ?_
    refine R.ev rfl (E.pickF rfl rfl) ?_
    refine R.done ?_
    refine X.keep [(0, _), (2, _), (3, _), (4, _), (6, _), (22, _)] ⟨rfl, rfl, rfl, rfl, rfl, rfl, trivial⟩ ?_
    refine X.next ?_
    refine C.cfalse rfl ?_
    refine C.exit ?_
    refine X.thenExit ?_
    refine X.loopExit ?_
    refine X.blockExit ?_
    refine X.next ?_
    refine C.seq ?_
    refine C.region ?_
    refine R.ev rfl (E.move rfl) ?_
    refine R.ev rfl (E.move rfl) ?_
    refine R.ev rfl (E.move rfl) ?_
    refine R.ev rfl (E.assign rfl) ?_
    refine R.ev rfl (E.assign rfl) ?_
    refine R.ev rfl (E.assign rfl) ?_
    refine R.ev rfl (E.assign rfl) ?_
    refine R.done ?_
    refine X.keep [(2, _), (3, _), (4, _), (5, _)] ⟨rfl, rfl, rfl, rfl, trivial⟩ ?_
    refine X.next ?_
    refine C.ret ?_
    refine X.resTTTT rfl rfl rfl rfl rfl ?_
    exact ⟨K1, p, s, L, v, F1, rfl, hk1, hr1, hI.mono hk40, hw1, hs.to⟩
end Go.Proofs.Ytobhhnfckhbeeaa
