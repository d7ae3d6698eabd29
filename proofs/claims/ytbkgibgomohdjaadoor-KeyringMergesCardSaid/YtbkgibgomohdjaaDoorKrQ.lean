/-
  Chapter 19: Equal, Clone, Merge.
-/

import Derived.Test.YtbkgibgomohdjaaDoorKrL
namespace Go.Proofs.YtbkgibgomohdjaaDoor
open Go.Eng Go.RowKit Go.Sort
variable {K : Kn} {Hs Rs : List Hl} {F : Hl} {w : World} {v : Value} {L L2 : List RO} {p q : Nat} {MK MK2 : MKn} {MR MR2 : MRo}
theorem allR_mem {V : MVl} {Xh : Hl} (h : AllR 109 encO 84 V MR Xh) {e : Slot × Value} (he : e ∈ V) : ∃ Ls Fk, (e.1, Ls) ∈ MR ∧ RowL 109 encO 84 e.2 Ls Fk ∧ ∀ x ∈ Fk, x ∈ Xh := by
  induction h with
  | nil => simp at he
  | @cons k0 v0 L0 F0 V0 M0 G0 r0 h0 ih =>
    rcases List.mem_cons.1 he with rfl | he
    · exact ⟨L0, F0, by simp, r0, fun x hx => by simp [hx]⟩
    · obtain ⟨Ls, Fk, h1, h2, h3⟩ := ih he
      exact ⟨Ls, Fk, by simp [h1], h2, fun x hx => by simp [h3 x hx]⟩
/-- all slots together -/
theorem kinv_flat (h : KInv MK MR L) : ((MR.map (·.1)).flatMap fun s => (lkM MR s).getD []).Perm L := by
  refine (List.perm_ext_iff_of_nodup ?_ h.ok.nodup).2 fun r => ?_
  · rw [List.Nodup, List.pairwise_flatMap]
    refine ⟨fun s _ => ?_, ?_⟩
    · have := (h.sl s).nodup_iff.2 (h.ok.nodup.sublist List.filter_sublist)
      exact this
    · refine List.Pairwise.imp ?_ h.nd
      intro s t hst x hx y hy e
      subst e
      have h1 := (mem_slotL.1 ((h.sl s).mem_iff.1 hx)).2
      have h2 := (mem_slotL.1 ((h.sl t).mem_iff.1 hy)).2
      apply hst
      obtain ⟨a, n⟩ := s
      obtain ⟨b, m⟩ := t
      simp only at h1 h2
      rw [← h1.1, ← h1.2, ← h2.1, ← h2.2]
  · rw [List.mem_flatMap]
    constructor
    · rintro ⟨s, _, hr⟩
      exact (mem_slotL.1 ((h.sl s).mem_iff.1 hr)).1
    · intro hr
      obtain ⟨e, he, hre⟩ := h.mem.1 hr
      exact ⟨e.1, List.mem_map.2 ⟨e, he, rfl⟩, by rw [lkM_of_mem h.nd (show (e.1, e.2) ∈ _ from he)]; exact hre⟩
theorem encO_fits (r : RO) : fitsAll (List.replicate 48 (lInt .u8) ++ List.replicate 2 (lInt .i64) ++ List.replicate 16 (lInt .u8) ++ List.replicate 2 (lInt .i64) ++ List.replicate 16 (lInt .u8)) (encO r) = true := by
  have e : encO r = ((((r.id.1 ++ r.au.1).map ub ++ [.int .i64 r.n, .int .i64 r.pu.h]) ++ r.pu.r.1.map ub) ++ [.int .i64 r.leaf, .int .i64 r.nw.h]) ++ r.nw.r.1.map ub := by simp [encO, encP]
  rw [e]
  exact fitsAll_mk (fitsAll_mk (fitsAll_mk (fitsAll_mk (fitsN (by simp [r.id.2, r.au.2])) rfl) (fitsN r.pu.r.2)) rfl) (fitsN r.nw.r.2)
theorem idxO_any (x : RO) {ad : Option Addr} {n c : Nat} (hs : Sat K w Hs) [hrd : Rd encO 84 K Hs (.slice ad n c) L] (hn : n ≤ 1000000) :
    Ret Tryd.prog 63 #[.slice ad n c, .agg (encO x).toArray] w fun v w' => ∃ z : Int, v = .int .i64 z ∧ (0 ≤ z ↔ x ∈ L) ∧ Sat K w' Hs := by
  have hln := hrd.len
  refine Ret.enter (n := 19) (args := [.slice ad n c, .agg (encO x).toArray]) Tryd.func63 rfl rfl ?_
  refine C.keep [(0, _), (1, _)] ⟨rfl, rfl, trivial⟩ ?_
  refine C.seq ?_
  refine C.region ?_
  refine R.sboxA hs rfl rfl ?_
  intro b3 w3 hs
  refine R.ev rfl (E.assign rfl) ?_
  refine R.done ?_
  refine X.keep [(0, _), (3, _)] ⟨rfl, rfl, trivial⟩ ?_
  refine X.next ?_
  refine C.seq ?_
  refine C.seq ?_
  refine C.region ?_
  refine R.ev rfl (E.move rfl) ?_
  refine R.ev rfl (E.lenSl rfl Tryd.underlying101) ?_
  refine R.ev rfl (E.move rfl) ?_
  refine R.done ?_
  refine X.keep [(0, _), (3, _), (7, _), (8, _)] ⟨rfl, rfl, rfl, rfl, trivial⟩ ?_
  refine X.next ?_
  refine C.block ?_
  refine C.loop  [(0, _), (3, _), (7, _)] (fun k => [(8, .int .i64 (k : Nat))]) (fun k w' => k ≤ n ∧ Sat K w' (row b3 109 (encO x) :: Hs) ∧ x ∉ L.take k) (fun k => n - k) (0) ⟨rfl, rfl, rfl, rfl, trivial⟩ ⟨Nat.zero_le _, hs, by simp⟩ ?_
  rintro k w1 ⟨hk, hs, hno⟩
  refine C.keep [(0, _), (3, _), (7, _), (8, _)] ⟨rfl, rfl, rfl, rfl, trivial⟩ ?_
  refine C.seq ?_
  refine C.region ?_
  refine R.ev rfl (E.lss rfl rfl) ?_
  refine R.done ?_
  refine X.keep [(0, _), (3, _), (7, _), (8, _), (9, _)] ⟨rfl, rfl, rfl, rfl, rfl, trivial⟩ ?_
  refine X.next ?_
  refine C.seq ?_
  refine C.cdec rfl (fun h9 => ?_) (fun h9 => ?_)
  obtain ⟨y, bk_y, of_y, hy, my, ly, rfl, Ay⟩ := hs.el (i := k) (ad := ad) (n := n) (c := c) (by omega)
  have ay := Ay _ hs
  refine C.skip ?_
  refine X.next ?_
  refine C.seq ?_
  refine C.block ?_
  refine C.seq ?_
  refine C.region ?_
  refine R.ev rfl (E.move rfl) ?_
  refine R.ev rfl (E.assign rfl) ?_
  refine R.done ?_
  refine X.keep [(0, _), (3, _), (5, _), (7, _), (8, _)] ⟨rfl, rfl, rfl, rfl, rfl, trivial⟩ ?_
  refine X.next ?_
  refine C.seq ?_
  refine C.drawn (SatS hs) ([0, 4], [1, 2, 3, 5]) (by kernel_rfl) ?_
  have hs := hs.drew
  refine D.evP 1 rfl (by kernel_rfl) rfl (fun _ => hs.to) (fun _ => E.move rfl) ?_
  refine D.evP 2 rfl (by kernel_rfl) rfl (fun _ => hs.to) (fun _ => E.move rfl) ?_
  refine D.evP 3 rfl (by kernel_rfl) rfl (fun _ => hs.to) (fun _ => E.indexAddr rfl rfl Tryd.underlying101 Tryd.sz109 rfl (by omega)) ?_
  refine D.ev 0 rfl (by kernel_rfl) rfl hs.to (fun _ hS => E.loadRowC rfl Tryd.underlying109 rfl Tryd.sz109 (by exact ⟨hS.ldA, by exact Enc.len _⟩)) ?_
  refine D.ev 4 rfl (by kernel_rfl) rfl hs.to (fun _ hS => E.loadRow rfl Tryd.underlying109 rfl Tryd.sz109 (Ay _ hS) ly) ?_
  refine D.evP 5 rfl (by kernel_rfl) rfl (fun _ => hs.to) (fun _ => (E.eqlAgg 10 rfl rfl Tryd.lv109 rfl Tryd.underlying109 rfl Tryd.gd109 (encO_fits x) (encO_fits y)).isB (c := decide (x = y)) encO_eq) ?_
  refine D.done rfl (by kernel_rfl) ?_
  refine X.keep [(0, _), (3, _), (5, _), (7, _), (8, _), (16, _)] ⟨rfl, rfl, rfl, rfl, rfl, rfl, trivial⟩ ?_
  refine X.next ?_
  refine C.cbool rfl (fun h16 => ?_) (fun h16 => ?_)
  refine C.seq ?_
  refine C.region ?_
  refine R.ev rfl (E.move rfl) ?_
  refine R.ev rfl (E.assign rfl) ?_
  refine R.done ?_
  refine X.keep [(4, _)] ⟨rfl, trivial⟩ ?_
  refine X.next ?_
  refine C.ret ?_
  refine X.blockRet ?_
  refine X.thenRet ?_
  refine X.loopRet ?_
  refine X.blockRet ?_
  refine X.thenRet ?_
  refine X.ret1 rfl rfl ?_
  exact ⟨_, rfl, ⟨fun _ => by rw [of_decide_eq_true h16]; exact my, fun _ => by omega⟩, hs.to⟩
  refine C.skip ?_
  refine X.blockNormal ?_
  refine X.next ?_
  refine C.region ?_
  refine R.ev rfl (E.add rfl rfl (by omega) (by omega)) ?_
  refine R.ev rfl (E.move rfl) ?_
  refine R.done ?_
  refine X.keep [(0, _), (3, _), (7, _), (8, _)] ⟨rfl, rfl, rfl, rfl, trivial⟩ ?_
  exact X.again (k + 1) ⟨rfl, rfl, rfl, rfl, trivial⟩ ⟨by omega, hs, by rw [take_snoc hy]; simp only [List.mem_append, List.mem_singleton, not_or]; exact ⟨hno, of_decide_eq_false h16⟩⟩ (by omega)
  refine C.exit ?_
  refine X.thenExit ?_
  refine X.loopExit ?_
  refine X.blockExit ?_
  refine X.next ?_
  refine C.seq ?_
  refine C.region ?_
  refine R.ev rfl (E.assign rfl) ?_
  refine R.done ?_
  refine X.keep [(4, _)] ⟨rfl, trivial⟩ ?_
  refine X.next ?_
  refine C.ret ?_
  refine X.ret1 rfl rfl ?_
  exact ⟨_, rfl, ⟨fun h => absurd h (by decide), fun h => absurd h (by rw [List.take_of_length_le (by omega)] at hno; exact hno)⟩, hs.to⟩
theorem conO_any (x : RO) {ad : Option Addr} {n c : Nat} (hs : Sat K w Hs) [hrd : Rd encO 84 K Hs (.slice ad n c) L] (hn : n ≤ 1000000) :
    Ret Tryd.prog 46 #[.slice ad n c, .agg (encO x).toArray] w fun v w' => v = .bool (decide (x ∈ L)) ∧ Sat K w' Hs := by
  have q1 := encO_len x
  refine Ret.enter (n := 9) (args := [.slice ad n c, .agg (encO x).toArray]) Tryd.func46 rfl rfl ?_
  refine C.keep [(0, _), (1, _)] ⟨rfl, rfl, trivial⟩ ?_
  refine C.seq ?_
  refine C.region ?_
  refine R.sboxA hs rfl rfl ?_
  intro b3 w3 hs
  refine R.ev rfl (E.assign rfl) ?_
  refine R.done ?_
  refine X.keep [(0, _), (3, _)] ⟨rfl, rfl, trivial⟩ ?_
  refine X.next ?_
  refine C.seq ?_
  refine C.region ?_
  refine R.ev rfl (E.move rfl) ?_
  refine R.ev rfl (E.loadRowC rfl Tryd.underlying109 rfl Tryd.sz109 (by exact ⟨hs.ldA, by assumption⟩)) ?_
  refine R.call ⟨_, _, Tryd.func63, rfl, by kernel_rfl⟩ rfl rfl (idxO_any x hs hn) ?_
  rintro _ w1 ⟨z, rfl, hz, hs⟩
  refine R.ev rfl ((E.geq rfl rfl).isB (c := decide (x ∈ L)) (by rw [decide_eq_decide]; exact hz)) ?_
  refine R.ev rfl (E.assign rfl) ?_
  refine R.done ?_
  refine X.keep [(4, _)] ⟨rfl, trivial⟩ ?_
  refine X.next ?_
  refine C.ret ?_
  refine X.ret1 rfl rfl ?_
  exact ⟨rfl, hs.to⟩
theorem cloneO_any {K : Kn} {Hs : List Hl} {L : List RO} {ad : Option Addr} {n c : Nat} {w : World} (hs : Sat K w Hs) [hrd : Rd encO 84 K Hs (.slice ad n c) L] (hn : n ≤ 1000000) :
    Ret Tryd.prog 48 #[.slice ad n c] w fun v w' => ∃ F, RowL 109 encO 84 v L F ∧ Sat K w' (F :: Hs) := by
  have hln := hrd.len
  refine Ret.enter (n := 8) (args := [.slice ad n c]) Tryd.func48 rfl rfl ?_
  refine C.keep [(0, _)] ⟨rfl, trivial⟩ ?_
  refine C.seq ?_
  refine C.region ?_
  refine R.ev rfl (E.assign rfl) ?_
  refine R.done ?_
  refine X.keep [(0, _)] ⟨rfl, trivial⟩ ?_
  refine X.next ?_
  refine C.seq ?_
  refine C.seq ?_
  refine C.region ?_
  refine R.ev rfl (E.move rfl) ?_
  refine R.ev rfl (E.eqlNilS rfl rfl Tryd.underlying101) ?_
  refine R.done ?_
  refine X.keep [(0, _), (4, _)] ⟨rfl, rfl, trivial⟩ ?_
  refine X.next ?_
  refine C.cbool rfl (fun h4 => ?_) (fun h4 => ?_)
  refine C.seq ?_
  refine C.region ?_
  refine R.ev rfl (E.assign rfl) ?_
  refine R.done ?_
  refine X.keep [(2, _)] ⟨rfl, trivial⟩ ?_
  refine X.next ?_
  refine C.ret ?_
  refine X.thenRet ?_
  refine X.ret1 rfl rfl ?_
  have hL : L = [] := by
    by_cases hL : L = []
    · exact hL
    · obtain ⟨b, off, rfl, _⟩ := (hrd.sl _ hs).at_ hL
      simp at h4
  subst hL
  exact ⟨[], RowL.nil _ _ _, hs.nil⟩
  refine C.skip ?_
  refine X.next ?_
  refine C.seq ?_
  refine C.region ?_
  refine R.sbuild0 (enc := encO) hs Tryd.underlying101 Tryd.sz109 rfl ?_
  intro v5 w5 F5 r5 nn5 hs
  refine R.ev rfl (E.move rfl) ?_
  refine R.cappSl hs rfl rfl Tryd.underlying101 Tryd.by109 (by rfl) rfl (by decide) (by (simp only [List.length_append, List.length_cons, List.length_nil] at *; omega)) (by (simp only [List.length_append, List.length_cons, List.length_nil] at *; omega)) ?_
  intro v7 w7 F7 r7 hs
  refine R.ev rfl (E.assign rfl) ?_
  refine R.done ?_
  refine X.keep [(2, _)] ⟨rfl, trivial⟩ ?_
  refine X.next ?_
  refine C.ret ?_
  refine X.ret1 rfl rfl ?_
  exact ⟨F7, by simpa using r7, hs⟩
theorem equal_any (hI : KInv MK MR L) (hI2 : KInv MK2 MR2 L2) (hl : L.length ≤ 100000) (hl2 : L2.length ≤ 100000) (hs : Sat K w Hs) [hw : KrIn p MK MR Hs] [hw2 : KrIn q MK2 MR2 Hs] : Ret Tryd.prog 25 #[ptr p, ptr q] w fun r w' => r = .bool (eqKr L L2) ∧ Sat K w' Hs := by
  obtain ⟨m1, G1, m2, V, G2, Xh, _, hm1, _, hm2, hG2, hX, hXi⟩ := hw.ex
  obtain ⟨n1, H1, n2, V2, H2, Yh, _, hn1, _, hn2, _, hY, _⟩ := hw2.ex
  obtain ⟨b, es, clock, rfl, rfl, hr⟩ := hm2.ex
  have hb : InH b (.map es clock) Hs := ⟨hG2.sub _ (by simp)⟩
  have hslot : ∀ r : RO, r ∈ (lkM MR2 (rsl r)).getD [] ↔ r ∈ L2 := fun r => by
    rw [(hI2.sl (rsl r)).mem_iff, mem_slotL]; exact ⟨fun h => h.1, fun h => ⟨h, rfl, rfl⟩⟩
  refine Ret.enter (n := 58) (args := [ptr p, ptr q]) Tryd.func25 rfl rfl ?_
  refine C.keep [(0, _), (1, _)] ⟨rfl, rfl, trivial⟩ ?_
  refine C.seq ?_
  refine C.region ?_
  refine R.ev rfl (E.assign rfl) ?_
  refine R.done ?_
  refine X.keep [(0, _), (1, _)] ⟨rfl, rfl, trivial⟩ ?_
  refine X.next ?_
  refine C.seq ?_
  refine C.seq ?_
  refine C.region ?_
  refine R.ev rfl (E.move rfl) ?_
  refine R.ev rfl (E.eqlNilF rfl rfl Tryd.underlying25) ?_
  refine R.ev rfl (E.move rfl) ?_
  refine R.gyes rfl rfl ?_
  refine R.ev rfl (E.move rfl) ?_
  refine R.gyes rfl rfl ?_
  refine R.ev rfl (E.eqlNilF rfl rfl Tryd.underlying25) ?_
  refine R.ev rfl (E.pickF rfl rfl) ?_
  refine R.done ?_
  refine X.keep [(0, _), (1, _), (14, _)] ⟨rfl, rfl, rfl, trivial⟩ ?_
  refine X.next ?_
  refine C.cfalse rfl ?_
  refine C.skip ?_
  refine X.next ?_
  refine C.seq ?_
  refine C.seq ?_
  refine C.drawn (SatS hs) ([3, 4, 8, 9], [0, 1, 2, 5, 6, 7, 10]) (by kernel_rfl) ?_
  have hs := hs.drew
  refine D.evP 0 rfl (by kernel_rfl) rfl (fun _ => hs.to) (fun _ => E.move rfl) ?_
  refine D.evP 1 rfl (by kernel_rfl) rfl (fun _ => hs.to) (fun _ => E.nilCheck rfl) ?_
  refine D.evP 2 rfl (by kernel_rfl) rfl (fun _ => hs.to) (fun _ => E.fieldAddr0 0 rfl Tryd.underlying105 rfl Tryd.sz102 rfl) ?_
  refine D.evP 5 rfl (by kernel_rfl) rfl (fun _ => hs.to) (fun _ => E.move rfl) ?_
  refine D.evP 6 rfl (by kernel_rfl) rfl (fun _ => hs.to) (fun _ => E.nilCheck rfl) ?_
  refine D.evP 7 rfl (by kernel_rfl) rfl (fun _ => hs.to) (fun _ => E.fieldAddr0 0 rfl Tryd.underlying105 rfl Tryd.sz102 rfl) ?_
  refine D.ev 3 rfl (by kernel_rfl) rfl hs.to (fun _ hS => E.load1 rfl Tryd.underlying102 rfl (by exact hS.ld rfl)) ?_
  refine D.ev 4 rfl (by kernel_rfl) rfl hs.to (fun _ hS => E.lenM hS rfl Tryd.underlying102) ?_
  refine D.ev 8 rfl (by kernel_rfl) rfl hs.to (fun _ hS => E.load1 rfl Tryd.underlying102 rfl (by exact hS.ld rfl)) ?_
  refine D.ev 9 rfl (by kernel_rfl) rfl hs.to (fun _ hS => E.lenM hS rfl Tryd.underlying102) ?_
  refine D.evP 10 rfl (by kernel_rfl) rfl (fun _ => hs.to) (fun _ => E.neq rfl rfl) ?_
  refine D.done rfl (by kernel_rfl) ?_
  refine X.keep [(0, _), (1, _), (31, _)] ⟨rfl, rfl, rfl, trivial⟩ ?_
  refine X.next ?_
  refine C.cdec rfl (fun h31 => ?_) (fun h31 => ?_)
  refine C.seq ?_
  refine C.region ?_
  refine R.ev rfl (E.assign rfl) ?_
  refine R.done ?_
  refine X.keep [(4, _)] ⟨rfl, trivial⟩ ?_
  refine X.next ?_
  refine C.ret ?_
  refine X.thenRet ?_
  refine X.ret1 rfl rfl ?_
  have hne : L.length ≠ L2.length := by rw [← hI.kl, ← hI2.kl]; omega
  exact ⟨by rw [eqKr, decide_eq_false hne]; rfl, hs⟩
  refine C.skip ?_
  refine X.next ?_
  refine C.seq ?_
  refine C.seq ?_
  refine C.region ?_
  have hll : L.length = L2.length := by rw [← hI.kl, ← hI2.kl]; omega
  refine R.ev rfl (E.move rfl) ?_
  refine R.ev rfl (E.nilCheck rfl) ?_
  refine R.ev rfl (E.fieldAddr0 1 rfl Tryd.underlying105 rfl Tryd.sz103 rfl) ?_
  refine R.ev rfl (E.load1 rfl Tryd.underlying103 rfl (by exact hs.ld rfl)) ?_
  refine R.crange hs rfl Tryd.underlying103 (hr) rfl ?_
  intro r36 w36 F36 it36 hs
  refine R.done ?_
  refine X.keep [(1, _), (36, _)] ⟨rfl, rfl, trivial⟩ ?_
  refine X.next ?_
  refine C.block ?_
  refine C.loop (T := MVl × MVl × Hl) [(1, _), (36, _)] (fun _ => []) (fun (Lr, Ls, Fi) w' => ItP ekT evV r36 b es clock Lr Fi ∧ (Ls ++ Lr).Perm V ∧ (∀ e ∈ Ls, ∀ r ∈ (lkM MR e.1).getD [], r ∈ L2) ∧ Sat K w' (Fi :: Hs)) (fun (Lr, _) => Lr.length) ((V, [], F36)) ⟨rfl, rfl, trivial⟩ ⟨it36, by simp, by simp, hs.to⟩ ?_
  rintro ⟨Lr, Ls, Fi⟩ w4 ⟨hit, hpm, hin, hs⟩
  refine C.keep [(1, _), (36, _)] ⟨rfl, rfl, trivial⟩ ?_
  refine C.seq ?_
  refine C.region ?_
  refine R.cnext hs rfl (hr) (hit) rfl ?_ ?_
  intro hover
  refine R.ev rfl (E.extract rfl rfl) ?_
  refine R.done ?_
  refine X.keep [(1, _), (36, _), (38, _)] ⟨rfl, rfl, rfl, trivial⟩ ?_
  refine X.next ?_
  refine C.seq ?_
  refine C.cfalse rfl ?_
  refine C.exit ?_
  refine X.thenExit ?_
  refine X.loopExit ?_
  refine X.blockExit ?_
  refine X.next ?_
  refine C.seq ?_
  refine C.region ?_
  refine R.ev rfl (E.assign rfl) ?_
  refine R.done ?_
  refine X.keep [(4, _)] ⟨rfl, trivial⟩ ?_
  refine X.next ?_
  refine C.ret ?_
  refine X.ret1 rfl rfl ?_
  rw [hover, List.append_nil] at hpm
  have : eqKr L L2 = true := eqKr_iff.2 ⟨hll, fun r hr => by
    obtain ⟨s, hs1, hs2⟩ := List.mem_flatMap.1 ((kinv_flat hI).mem_iff.2 hr)
    rw [← hX.keys] at hs1
    obtain ⟨e, he, rfl⟩ := List.mem_map.1 hs1
    exact hin e (hpm.mem_iff.2 he) r hs2⟩
  exact ⟨by rw [this], hs.to⟩
  intro p37 L37 w37 F37 pm37 mm37 it37 hs hent
  obtain ⟨s37, v37⟩ := p37
  have hpV : (s37, v37) ∈ V := hpm.subset (List.mem_append_right _ mm37)
  obtain ⟨Lk, Fk, hk1, hk2, hk3⟩ := allR_mem hX hpV
  have hFk : FIn Fk Hs := hXi.mono hk3
  obtain ⟨ad, cp, rfl, _⟩ := hk2.val
  have hLk : (lkM MR s37).getD [] = Lk := by rw [lkM_of_mem hI.nd hk1]; rfl
  have hLl : Lk.length ≤ 100000 := by have h1 := (hI.sl s37).length_eq; rw [hLk] at h1; have h2 := List.length_filter_le (atS s37.1 s37.2) L; unfold slotL at h1; omega
  have hLs : ∀ r ∈ Lk, rsl r = s37 := fun r hr => by
    have h1 := mem_slotL.1 ((hI.sl s37).mem_iff.1 (by rw [hLk]; exact hr))
    obtain ⟨a, n⟩ := s37
    rw [rsl, h1.2.1, h1.2.2]
  have hLL : ∀ r ∈ Lk, r ∈ L := fun r hr => (mem_slotL.1 ((hI.sl s37).mem_iff.1 (by rw [hLk]; exact hr))).1
  have hpm2 : ((Ls ++ [(s37, Value.slice ad Lk.length cp)]) ++ L37).Perm V := by
    refine List.Perm.trans ?_ hpm
    rw [List.append_assoc]
    exact List.Perm.append_left _ pm37.symm
  have q1 := encT_len s37
  have rd2 : Rd encO 84 K Hs ((lkM V2 s37).getD (.slice none 0 0)) ((lkM MR2 s37).getD []) := allR_rd hY s37
  have hp2 : ((lkM MR2 s37).getD []).Perm (slotL L2 s37.1 s37.2) := hI2.sl s37
  have hin2 : ∀ r ∈ Lk, (r ∈ (lkM MR2 s37).getD [] ↔ r ∈ L2) := fun r hr => by have := hslot r; rw [hLs r hr] at this; exact this
  generalize (lkM MR2 s37).getD [] = S2 at rd2 hp2 hin2
  obtain ⟨ad2, cp2, he2, _⟩ := rd2.ex
  rw [he2] at rd2
  have hl3 : S2.length ≤ 100000 := by rw [hp2.length_eq]; have := List.length_filter_le (atS s37.1 s37.2) L2; unfold slotL; omega
  refine R.ev rfl (E.extract rfl rfl) ?_
  refine R.done ?_
  refine X.keep [(1, _), (36, _), (38, _)] ⟨rfl, rfl, rfl, trivial⟩ ?_
  refine X.next ?_
  refine C.seq ?_
  refine C.ctrue rfl ?_
  refine C.skip ?_
  refine X.next ?_
  refine C.block ?_
  refine C.seq ?_
  refine C.region ?_
  refine R.ev rfl (E.entryC rfl (hent _ hs)) ?_
  refine R.ev rfl (E.extract rfl rfl) ?_
  refine R.ev rfl (E.extract rfl rfl) ?_
  refine R.sallocA hs Tryd.zr107 rfl ?_
  intro b5 w5 hs
  refine R.cstoreAll hs rfl rfl Tryd.sz107 (by rfl) (by assumption) (by exact Enc.one _) ?_
  intro w7_4 hs
  try simp only [List.set_cons_zero, List.set_cons_succ] at hs
  refine R.ev rfl (E.assign rfl) ?_
  refine R.done ?_
  refine X.keep [(1, _), (5, _), (6, _), (36, _)] ⟨rfl, rfl, rfl, rfl, trivial⟩ ?_
  refine X.next ?_
  refine C.seq ?_
  refine C.region ?_
  refine R.ev rfl (E.move rfl) ?_
  refine R.ev rfl (E.lenSl rfl Tryd.underlying101) ?_
  refine R.ev rfl (E.move rfl) ?_
  refine R.done ?_
  refine X.keep [(1, _), (5, _), (36, _), (42, _), (43, _), (44, _)] ⟨rfl, rfl, rfl, rfl, rfl, rfl, trivial⟩ ?_
  refine X.next ?_
  refine C.block ?_
  refine C.loop  [(1, _), (5, _), (36, _), (42, _), (43, _)] (fun k => [(44, .int .i64 (k : Nat))]) (fun k w' => k ≤ Lk.length ∧ (∀ r ∈ Lk.take k, r ∈ L2) ∧ Sat K w' (row b5 107 (encT s37) :: F37 :: Hs)) (fun k => Lk.length - k) (0) ⟨rfl, rfl, rfl, rfl, rfl, rfl, trivial⟩ ⟨Nat.zero_le _, by simp, hs⟩ ?_
  rintro k w5 ⟨hk, hkn, hs⟩
  refine C.keep [(1, _), (5, _), (36, _), (42, _), (43, _), (44, _)] ⟨rfl, rfl, rfl, rfl, rfl, rfl, trivial⟩ ?_
  refine C.seq ?_
  refine C.region ?_
  refine R.ev rfl (E.lss rfl rfl) ?_
  refine R.done ?_
  refine X.keep [(1, _), (5, _), (36, _), (42, _), (43, _), (44, _), (45, _)] ⟨rfl, rfl, rfl, rfl, rfl, rfl, rfl, trivial⟩ ?_
  refine X.next ?_
  refine C.seq ?_
  refine C.cdec rfl (fun h45 => ?_) (fun h45 => ?_)
  obtain ⟨y, bk_y, of_y, hy, my, ly, rfl, Ay⟩ := hs.el (i := k) (ad := ad) (n := Lk.length) (c := cp) (by omega)
  have ay := Ay _ hs
  refine C.skip ?_
  refine X.next ?_
  refine C.seq ?_
  refine C.block ?_
  refine C.seq ?_
  refine C.region ?_
  refine R.ev rfl (E.indexAddr rfl rfl Tryd.underlying101 Tryd.sz109 rfl (by omega)) ?_
  refine R.ev rfl (E.loadRowC rfl Tryd.underlying109 rfl Tryd.sz109 (by exact ⟨by assumption, by assumption⟩)) ?_
  refine R.sallocA hs Tryd.zr109 rfl ?_
  intro b8 w8 hs
  refine R.cstoreAll hs rfl rfl Tryd.sz109 (by rfl) (by assumption) (by exact Enc.one _) ?_
  intro w10_3 hs
  try simp only [List.set_cons_zero, List.set_cons_succ] at hs
  refine R.done ?_
  refine X.keep [(1, _), (5, _), (8, _), (36, _), (42, _), (43, _), (44, _)] ⟨rfl, rfl, rfl, rfl, rfl, rfl, rfl, trivial⟩ ?_
  refine X.next ?_
  refine C.seq ?_
  refine C.drawn (SatS hs) ([3, 4, 5, 6], [0, 1, 2, 8]) (by kernel_rfl) ?_
  have hs := hs.drew
  refine D.evP 0 rfl (by kernel_rfl) rfl (fun _ => hs.to) (fun _ => E.move rfl) ?_
  refine D.evP 1 rfl (by kernel_rfl) rfl (fun _ => hs.to) (fun _ => E.nilCheck rfl) ?_
  refine D.evP 2 rfl (by kernel_rfl) rfl (fun _ => hs.to) (fun _ => E.fieldAddr0 1 rfl Tryd.underlying105 rfl Tryd.sz103 rfl) ?_
  refine D.ev 3 rfl (by kernel_rfl) rfl hs.to (fun _ hS => E.load1 rfl Tryd.underlying103 rfl (by exact hS.ld rfl)) ?_
  refine D.ev 4 rfl (by kernel_rfl) rfl hs.to (fun _ hS => E.loadRowC rfl Tryd.underlying107 rfl Tryd.sz107 (by exact ⟨hS.ldA, by assumption⟩)) ?_
  refine D.ev 5 rfl (by kernel_rfl) rfl hs.to (fun _ hS => (E.lookupD (z0 := Value.slice none 0 0) hS rfl rfl Tryd.underlying103 s37 (by rfl)).as (u := .slice ad2 S2.length cp2) he2) ?_
  refine D.ev 6 rfl (by kernel_rfl) rfl hs.to (fun _ hS => E.loadRowC rfl Tryd.underlying109 rfl Tryd.sz109 (by exact ⟨hS.ldA, by assumption⟩)) ?_
  refine D.act 7 rfl (by kernel_rfl) ?_
  refine R.call ⟨_, _, Tryd.func46, rfl, by kernel_rfl⟩ rfl rfl (conO_any y hs (by omega)) ?_
  rintro _ w117 ⟨rfl, hs⟩
  refine D.backT (by kernel_rfl) ?_
  refine D.evP 8 rfl (by kernel_rfl) rfl (np (by kernel_rfl)) (fun _ => (E.not rfl).isB (c := decide (y ∉ S2)) (by simp)) ?_
  refine D.done rfl (by kernel_rfl) ?_
  refine X.keep [(1, _), (5, _), (36, _), (42, _), (43, _), (44, _), (56, _)] ⟨rfl, rfl, rfl, rfl, rfl, rfl, rfl, trivial⟩ ?_
  refine X.next ?_
  refine C.cbool rfl (fun h56 => ?_) (fun h56 => ?_)
  refine C.seq ?_
  refine C.region ?_
  refine R.ev rfl (E.assign rfl) ?_
  refine R.done ?_
  refine X.keep [(4, _)] ⟨rfl, trivial⟩ ?_
  refine X.next ?_
  refine C.ret ?_
  refine X.blockRet ?_
  refine X.thenRet ?_
  refine X.loopRet ?_
  refine X.blockRet ?_
  refine X.blockRet ?_
  refine X.loopRet ?_
  refine X.blockRet ?_
  refine X.thenRet ?_
  refine X.ret1 rfl rfl ?_
  have hyn : y ∉ L2 := fun h => of_decide_eq_true h56 ((hin2 y my).2 h)
  have : eqKr L L2 = false := by
    cases hc : eqKr L L2 with
    | false => rfl
    | true => exact absurd ((eqKr_iff.1 hc).2 y (hLL y my)) hyn
  exact ⟨by rw [this], hs.to⟩
  refine C.skip ?_
  refine X.blockNormal ?_
  refine X.next ?_
  refine C.region ?_
  refine R.ev rfl (E.add rfl rfl (by omega) (by omega)) ?_
  refine R.ev rfl (E.move rfl) ?_
  refine R.done ?_
  refine X.keep [(1, _), (5, _), (36, _), (42, _), (43, _), (44, _)] ⟨rfl, rfl, rfl, rfl, rfl, rfl, trivial⟩ ?_
  have hyi : y ∈ L2 := (hin2 y my).1 (Decidable.not_not.1 (of_decide_eq_false h56))
  exact X.again (k + 1) ⟨rfl, rfl, rfl, rfl, rfl, rfl, trivial⟩ ⟨by omega, by rw [take_snoc hy]; simp only [List.mem_append, List.mem_singleton]; rintro r (h | rfl); exact hkn r h; exact hyi, hs.to⟩ (by omega)
  refine C.exit ?_
  refine X.thenExit ?_
  refine X.loopExit ?_
  refine X.blockExit ?_
  refine X.blockNormal ?_
  rw [List.take_of_length_le (show Lk.length ≤ k by omega)] at hkn
  exact X.again (L37, Ls ++ [(s37, .slice ad Lk.length cp)], F37) ⟨rfl, rfl, trivial⟩ ⟨it37, hpm2, fun e he => by
    rcases List.mem_append.1 he with he | he
    · exact hin e he
    · simp at he; subst he; rw [hLk]; exact hkn, hs.to⟩ (by show L37.length < Lr.length; rw [pm37.length_eq]; simp)
theorem putM_new {κ ν : Type} [DecidableEq κ] {k : κ} {u : ν} : ∀ {M : List (κ × ν)}, k ∉ M.map (·.1) → putM k u M = M ++ [(k, u)]
  | [], _ => rfl
  | (a, y) :: M, h => by
    simp only [List.map_cons, List.mem_cons, not_or] at h
    rw [putM, if_neg h.1, putM_new h.2]; rfl
theorem key_new {κ ν : Type} {Ls L' M : List (κ × ν)} {e : κ × ν} (hn : (M.map (·.1)).Nodup) (hp : ((Ls ++ [e]) ++ L').Perm M) : e.1 ∉ Ls.map (·.1) := by
  have h := (hp.map (·.1)).nodup_iff.2 hn
  rw [List.map_append, List.map_append, List.nodup_append] at h
  have h2 := (List.nodup_append.1 h.1).2.2
  exact fun hc => h2 e.1 hc e.1 (by simp) rfl
theorem copyM_any {v1 v2 : Value} {G : Hl} (hs : Sat K w (F :: Rs)) [hd : MapL ekI ekT v1 [] F] [hm : MapL ekI ekT v2 MK G] [hG : FIn G Rs] :
    Ret Tryd.prog 47 #[v1, v2] w fun _ w' => ∃ M' F', M'.Perm MK ∧ MapL ekI ekT v1 M' F' ∧ Sat K w' (F' :: Rs) := by
  obtain ⟨b, es, clock, rfl, rfl, hr⟩ := hm.ex
  have hb : InH b (.map es clock) Rs := ⟨hG.sub _ (by simp)⟩
  obtain ⟨bd, _, _, rfl, _, _⟩ := hd.ex
  refine Ret.enter (n := 16) (args := [.map (some bd), .map (some b)]) Tryd.func47 rfl rfl ?_
  refine C.keep [(0, _), (1, _)] ⟨rfl, rfl, trivial⟩ ?_
  refine C.seq ?_
  refine C.region ?_
  refine R.ev rfl (E.move rfl) ?_
  refine R.crange hs rfl Tryd.underlying102 (hr) rfl ?_
  intro r7 w7 F7 it7 hs
  refine R.done ?_
  refine X.keep [(0, _), (7, _)] ⟨rfl, rfl, trivial⟩ ?_
  refine X.next ?_
  refine C.block ?_
  refine C.loop (T := MKn × MKn × Hl × Hl) [(0, _), (7, _)] (fun _ => []) (fun (Lr, Ls, Fi, F1) w' => ItP ekI ekT r7 b es clock Lr Fi ∧ (Ls ++ Lr).Perm MK ∧ MapL ekI ekT (.map (some bd)) Ls F1 ∧ Sat K w' (Fi :: F1 :: Rs)) (fun (Lr, _) => Lr.length) ((MK, [], F7, F)) ⟨rfl, rfl, trivial⟩ ⟨it7, by simp, hd, hs.to⟩ ?_
  rintro ⟨Lr, Ls, Fi, F1⟩ w4 ⟨hit, hpm, hm1, hs⟩
  refine C.keep [(0, _), (7, _)] ⟨rfl, rfl, trivial⟩ ?_
  refine C.seq ?_
  refine C.region ?_
  refine R.cnext hs rfl (hr) (hit) rfl ?_ ?_
  intro hover
  refine R.ev rfl (E.extract rfl rfl) ?_
  refine R.done ?_
  refine X.keep [(0, _), (7, _), (9, _)] ⟨rfl, rfl, rfl, trivial⟩ ?_
  refine X.next ?_
  refine C.seq ?_
  refine C.cfalse rfl ?_
  refine C.exit ?_
  refine X.thenExit ?_
  refine X.loopExit ?_
  refine X.blockExit ?_
  refine X.bodyNormal ?_
  refine X.ret0 rfl ?_
  rw [hover, List.append_nil] at hpm
  exact ⟨Ls, F1, hpm, hm1, hs.to⟩
  intro p8 L8 w8 F8 pm8 mm8 it8 hs hent
  have hpm2 : ((Ls ++ [p8]) ++ L8).Perm MK := by
    refine List.Perm.trans ?_ hpm
    rw [List.append_assoc]
    exact List.Perm.append_left _ pm8.symm
  have hnew := key_new hr.nd hpm2
  have q1 := encV_len p8.1
  have q2 := encT_len p8.2
  refine R.ev rfl (E.extract rfl rfl) ?_
  refine R.done ?_
  refine X.keep [(0, _), (7, _), (9, _)] ⟨rfl, rfl, rfl, trivial⟩ ?_
  refine X.next ?_
  refine C.seq ?_
  refine C.ctrue rfl ?_
  refine C.skip ?_
  refine X.next ?_
  refine C.block ?_
  refine C.seq ?_
  refine C.region ?_
  refine R.ev rfl (E.entryC rfl (hent _ hs)) ?_
  refine R.ev rfl (E.extract rfl rfl) ?_
  refine R.ev rfl (E.extract rfl rfl) ?_
  refine R.sallocA hs Tryd.zr59 rfl ?_
  intro b4 w4 hs
  refine R.sallocA hs Tryd.zr107 rfl ?_
  intro b5 w5 hs
  refine R.cstoreAll hs rfl rfl Tryd.sz59 (by rfl) (by assumption) (by exact OneL.all) ?_
  intro w2_5 hs
  try simp only [List.set_cons_zero, List.set_cons_succ] at hs
  refine R.cstoreAll hs rfl rfl Tryd.sz107 (by rfl) (by assumption) (by exact Enc.one _) ?_
  intro w2_6 hs
  try simp only [List.set_cons_zero, List.set_cons_succ] at hs
  refine R.done ?_
  refine X.keep [(0, _), (4, _), (5, _), (7, _)] ⟨rfl, rfl, rfl, rfl, trivial⟩ ?_
  refine X.next ?_
  refine C.region ?_
  refine R.ev rfl (E.move rfl) ?_
  refine R.ev rfl (E.loadRowC rfl Tryd.underlying59 rfl Tryd.sz59 (by exact ⟨hs.ldA, by assumption⟩)) ?_
  refine R.ev rfl (E.loadRowC rfl Tryd.underlying107 rfl Tryd.sz107 (by exact ⟨hs.ldA, by assumption⟩)) ?_
  refine R.cput (p8.1) (p8.2) hs rfl rfl rfl Tryd.underlying102 (by rfl) (by rfl) ?_
  intro w3_3 F3_3 m3_3 hs
  refine R.done ?_
  refine X.keep [(0, _), (7, _)] ⟨rfl, rfl, trivial⟩ ?_
  refine X.blockNormal ?_
  rw [putM_new hnew] at m3_3
  exact X.again (L8, Ls ++ [p8], F8, F3_3) ⟨rfl, rfl, trivial⟩ ⟨it8, hpm2, m3_3, hs.to⟩ (by show L8.length < Lr.length; rw [pm8.length_eq]; simp)
theorem lkM_perm {κ ν : Type} [DecidableEq κ] {M M' : List (κ × ν)} (h : M'.Perm M) (a : κ) : (lkM M' a).isSome = (lkM M a).isSome := by
  rw [Bool.eq_iff_iff, lkM_iff_key, lkM_iff_key]; exact (h.map (·.1)).mem_iff
theorem kinv_copy {MK' : MKn} {Md : MRo} {Ls : MVl} (hI : KInv MK MR L) (hk : MK'.Perm MK) (hm : Md = Ls.map fun e => (e.1, (lkM MR e.1).getD [])) (hp : (Ls.map (·.1)).Perm (MR.map (·.1))) : KInv MK' Md L := by
  have hkeys : Md.map (·.1) = Ls.map (·.1) := by rw [hm, List.map_map]; rfl
  have hnd : (Md.map (·.1)).Nodup := by rw [hkeys]; exact hp.nodup_iff.2 hI.nd
  refine ⟨hI.ok, fun a => by rw [lkM_perm hk, hI.kd], by rw [hk.length_eq, hI.kl], fun s => ?_, fun e he => ?_, hnd⟩
  · have : (lkM Md s).getD [] = (lkM MR s).getD [] := by
      by_cases hs : s ∈ Md.map (·.1)
      · have hs2 := hs
        rw [hkeys] at hs2
        obtain ⟨e, he, rfl⟩ := List.mem_map.1 hs2
        rw [lkM_of_mem hnd (show (e.1, (lkM MR e.1).getD []) ∈ Md by rw [hm]; exact List.mem_map.2 ⟨e, he, rfl⟩)]; rfl
      · have h1 : lkM Md s = none := lkM_none.2 hs
        have h2 : lkM MR s = none := lkM_none.2 fun h => hs (by rw [hkeys]; exact hp.mem_iff.2 h)
        rw [h1, h2]
    rw [this]; exact hI.sl s
  · rw [hm] at he
    obtain ⟨x, hx, rfl⟩ := List.mem_map.1 he
    have h1 : x.1 ∈ MR.map (·.1) := hp.mem_iff.1 (List.mem_map.2 ⟨x, hx, rfl⟩)
    obtain ⟨y, hy, hyx⟩ := List.mem_map.1 h1
    show (lkM MR x.1).getD [] ≠ []
    rw [← hyx, lkM_of_mem hI.nd (show (y.1, y.2) ∈ MR from hy)]
    exact hI.ne y hy
theorem clone_any (hI : KInv MK MR L) (hl : L.length ≤ 100000) (hs : Sat K w Hs) [hw : KrIn p MK MR Hs] : Ret Tryd.prog 27 #[ptr p] w fun r w' => ∃ q, r = ptr q ∧ AddP K Hs q L w' := by
  obtain ⟨m1, G1, m2, V, G2, Xh, _, hm1, hG1, hm2, hG2, hX, hXi⟩ := hw.ex
  obtain ⟨b1, _, _, rfl, _⟩ := hm1.ex
  obtain ⟨b, es, clock, rfl, rfl, hr⟩ := hm2.ex
  have hb : InH b (.map es clock) Hs := ⟨hG2.sub _ (by simp)⟩
  refine Ret.enter (n := 36) (args := [ptr p]) Tryd.func27 rfl rfl ?_
  refine C.keep [(0, _)] ⟨rfl, trivial⟩ ?_
  refine C.seq ?_
  refine C.region ?_
  refine R.ev rfl (E.assign rfl) ?_
  refine R.done ?_
  refine X.keep [(0, _)] ⟨rfl, trivial⟩ ?_
  refine X.next ?_
  refine C.seq ?_
  refine C.seq ?_
  refine C.region ?_
  refine R.ev rfl (E.move rfl) ?_
  refine R.ev rfl (E.eqlNilF rfl rfl Tryd.underlying25) ?_
  refine R.done ?_
  refine X.keep [(0, _), (7, _)] ⟨rfl, rfl, trivial⟩ ?_
  refine X.next ?_
  refine C.cfalse rfl ?_
  refine C.skip ?_
  refine X.next ?_
  refine C.seq ?_
  refine C.region ?_
  refine R.call ⟨_, _, Tryd.func23, rfl, by kernel_rfl⟩ rfl rfl (new_any hs) ?_
  rintro _ w3 ⟨q, F, rfl, hwq, hs⟩
  obtain ⟨n1, A1, n2, V0, A2, X0, rfl, hn1, hn2, hX0⟩ := hwq.ex
  obtain ⟨c1, _, _, rfl, _⟩ := hn1.ex
  obtain ⟨c2, _, _, rfl, _⟩ := hn2.ex
  have hV0 : V0 = [] ∧ X0 = [] := by cases hX0; exact ⟨rfl, rfl⟩
  obtain ⟨rfl, rfl⟩ := hV0
  have hs := hs.cut4
  have hs : Sat K w3 (row q 105 [.map (some c1), .map (some c2)] :: A1 :: A2 :: Hs) := hs.to
  refine R.ev rfl (E.assign rfl) ?_
  refine R.done ?_
  refine X.keep [(0, _), (3, _)] ⟨rfl, rfl, trivial⟩ ?_
  refine X.next ?_
  refine C.seq ?_
  refine C.drawn (SatS hs) ([3, 7], [0, 1, 2, 4, 5, 6]) (by kernel_rfl) ?_
  have hs := hs.drew
  refine D.evP 0 rfl (by kernel_rfl) rfl (fun _ => hs.to) (fun _ => E.move rfl) ?_
  refine D.evP 1 rfl (by kernel_rfl) rfl (fun _ => hs.to) (fun _ => E.nilCheck rfl) ?_
  refine D.evP 2 rfl (by kernel_rfl) rfl (fun _ => hs.to) (fun _ => E.fieldAddr0 0 rfl Tryd.underlying105 rfl Tryd.sz102 rfl) ?_
  refine D.evP 4 rfl (by kernel_rfl) rfl (fun _ => hs.to) (fun _ => E.move rfl) ?_
  refine D.evP 5 rfl (by kernel_rfl) rfl (fun _ => hs.to) (fun _ => E.nilCheck rfl) ?_
  refine D.evP 6 rfl (by kernel_rfl) rfl (fun _ => hs.to) (fun _ => E.fieldAddr0 0 rfl Tryd.underlying105 rfl Tryd.sz102 rfl) ?_
  refine D.ev 3 rfl (by kernel_rfl) rfl hs.to (fun _ hS => E.load1 rfl Tryd.underlying102 rfl (by exact hS.ld rfl)) ?_
  refine D.ev 7 rfl (by kernel_rfl) rfl hs.to (fun _ hS => E.load1 rfl Tryd.underlying102 rfl (by exact hS.ld rfl)) ?_
  refine D.act 8 rfl (by kernel_rfl) ?_
  refine R.call ⟨_, _, Tryd.func47, rfl, by kernel_rfl⟩ rfl rfl (copyM_any (F := A1) (hs.front (F := A1))) ?_
  rintro v48 w48 ⟨M', A3, hpM, hn3, hs1⟩
  have hs := hs.back (F := A1) hs1
  refine D.backT (by kernel_rfl) ?_
  refine D.done rfl (by kernel_rfl) ?_
  refine X.keep [(0, _), (3, _)] ⟨rfl, rfl, trivial⟩ ?_
  refine X.next ?_
  refine C.seq ?_
  refine C.seq ?_
  refine C.region ?_
  refine R.ev rfl (E.move rfl) ?_
  refine R.ev rfl (E.nilCheck rfl) ?_
  refine R.ev rfl (E.fieldAddr0 1 rfl Tryd.underlying105 rfl Tryd.sz103 rfl) ?_
  refine R.ev rfl (E.load1 rfl Tryd.underlying103 rfl (by exact hs.ld rfl)) ?_
  refine R.crange hs rfl Tryd.underlying103 (hr) rfl ?_
  intro r22 w22 F22 it22 hs
  refine R.done ?_
  refine X.keep [(3, _), (22, _)] ⟨rfl, rfl, trivial⟩ ?_
  refine X.next ?_
  refine C.block ?_
  refine C.loop (T := MVl × MVl × Hl × MVl × MRo × Hl × Hl) [(3, _), (22, _)] (fun _ => []) (fun (Lr, Ls, Fi, Vd, Md, A4, Xd) w' => ItP ekT evV r22 b es clock Lr Fi ∧ (Ls ++ Lr).Perm V ∧ MapL ekT evV (.map (some c2)) Vd A4 ∧ AllR 109 encO 84 Vd Md Xd ∧ Md = Ls.map (fun e => (e.1, (lkM MR e.1).getD [])) ∧ Sat K w' (Fi :: Xd :: A4 :: row q 105 [.map (some c1), .map (some c2)] :: A3 :: Hs)) (fun (Lr, _) => Lr.length) ((V, [], F22, [], [], A2, [])) ⟨rfl, rfl, trivial⟩ ⟨it22, by simp, hn2, AllR.nil, rfl, (show Sat K _ ([] :: F22 :: row q 105 [.map (some c1), .map (some c2)] :: A3 :: A2 :: Hs) from hs.nil).to⟩ ?_
  rintro ⟨Lr, Ls, Fi, Vd, Md, A4, Xd⟩ w4 ⟨hit, hpm, hn4, hXd, hMd, hs⟩
  refine C.keep [(3, _), (22, _)] ⟨rfl, rfl, trivial⟩ ?_
  refine C.seq ?_
  refine C.region ?_
  refine R.cnext hs rfl (hr) (hit) rfl ?_ ?_
  intro hover
  refine R.ev rfl (E.extract rfl rfl) ?_
  refine R.done ?_
  refine X.keep [(3, _), (22, _), (24, _)] ⟨rfl, rfl, rfl, trivial⟩ ?_
  refine X.next ?_
  refine C.seq ?_
  refine C.cfalse rfl ?_
  refine C.exit ?_
  refine X.thenExit ?_
  refine X.loopExit ?_
  refine X.blockExit ?_
  refine X.next ?_
  refine C.seq ?_
  refine C.region ?_
  refine R.ev rfl (E.move rfl) ?_
  refine R.ev rfl (E.assign rfl) ?_
  refine R.done ?_
  refine X.keep [(2, _)] ⟨rfl, trivial⟩ ?_
  refine X.next ?_
  refine C.ret ?_
  refine X.ret1 rfl rfl ?_
  rw [hover, List.append_nil] at hpm
  have hkp : (Ls.map (·.1)).Perm (MR.map (·.1)) := by rw [← hX.keys]; exact hpm.map _
  have hs : Sat K _ (row q 105 [.map (some c1), .map (some c2)] :: A3 :: A4 :: Xd :: Hs) := hs.to
  exact ⟨q, rfl, _, _, _, kinv_copy hI hpM hMd hkp, KrL.mk' hn3 hn4 hXd, hs.join4⟩
  intro p23 L23 w23 F23 pm23 mm23 it23 hs hent
  obtain ⟨s23, v23⟩ := p23
  have hpV : (s23, v23) ∈ V := hpm.subset (List.mem_append_right _ mm23)
  obtain ⟨Lk, Fk, hk1, hk2, hk3⟩ := allR_mem hX hpV
  have hFk : FIn Fk Hs := hXi.mono hk3
  obtain ⟨ad, cp, rfl, _⟩ := hk2.val
  have hLk : (lkM MR s23).getD [] = Lk := by rw [lkM_of_mem hI.nd hk1]; rfl
  have hLl : Lk.length ≤ 100000 := by have h1 := (hI.sl s23).length_eq; rw [hLk] at h1; have h2 := List.length_filter_le (atS s23.1 s23.2) L; unfold slotL at h1; omega
  have hpm2 : ((Ls ++ [(s23, Value.slice ad Lk.length cp)]) ++ L23).Perm V := by
    refine List.Perm.trans ?_ hpm
    rw [List.append_assoc]
    exact List.Perm.append_left _ pm23.symm
  have hnew := key_new hr.nd hpm2
  have hMk : s23 ∉ Md.map (·.1) := by rw [hMd, List.map_map]; exact hnew
  have hVk : s23 ∉ Vd.map (·.1) := by rw [hXd.keys]; exact hMk
  have q2 := encT_len s23
  refine R.ev rfl (E.extract rfl rfl) ?_
  refine R.done ?_
  refine X.keep [(3, _), (22, _), (24, _)] ⟨rfl, rfl, rfl, trivial⟩ ?_
  refine X.next ?_
  refine C.seq ?_
  refine C.ctrue rfl ?_
  refine C.skip ?_
  refine X.next ?_
  refine C.block ?_
  refine C.seq ?_
  refine C.region ?_
  refine R.ev rfl (E.entryC rfl (hent _ hs)) ?_
  refine R.ev rfl (E.extract rfl rfl) ?_
  refine R.ev rfl (E.extract rfl rfl) ?_
  refine R.sallocA hs Tryd.zr107 rfl ?_
  intro b4 w4 hs
  refine R.cstoreAll hs rfl rfl Tryd.sz107 (by rfl) (by assumption) (by exact Enc.one _) ?_
  intro w7_4 hs
  try simp only [List.set_cons_zero, List.set_cons_succ] at hs
  refine R.ev rfl (E.assign rfl) ?_
  refine R.done ?_
  refine X.keep [(3, _), (4, _), (5, _), (22, _)] ⟨rfl, rfl, rfl, rfl, trivial⟩ ?_
  refine X.next ?_
  refine C.drawn (SatS hs) ([3, 4], [0, 1, 2, 5]) (by kernel_rfl) ?_
  have hs := hs.drew
  refine D.evP 0 rfl (by kernel_rfl) rfl (fun _ => hs.to) (fun _ => E.move rfl) ?_
  refine D.evP 1 rfl (by kernel_rfl) rfl (fun _ => hs.to) (fun _ => E.nilCheck rfl) ?_
  refine D.evP 2 rfl (by kernel_rfl) rfl (fun _ => hs.to) (fun _ => E.fieldAddr0 1 rfl Tryd.underlying105 rfl Tryd.sz103 rfl) ?_
  refine D.evP 5 rfl (by kernel_rfl) rfl (fun _ => hs.to) (fun _ => E.move rfl) ?_
  refine D.ev 3 rfl (by kernel_rfl) rfl hs.to (fun _ hS => E.load1 rfl Tryd.underlying103 rfl (by exact hS.ld rfl)) ?_
  refine D.ev 4 rfl (by kernel_rfl) rfl hs.to (fun _ hS => E.loadRowC rfl Tryd.underlying107 rfl Tryd.sz107 (by exact ⟨hS.ldA, by assumption⟩)) ?_
  refine D.act 6 rfl (by kernel_rfl) ?_
  refine R.call ⟨_, _, Tryd.func48, rfl, by kernel_rfl⟩ rfl rfl (cloneO_any (L := Lk) hs (by omega)) ?_
  rintro v34 w34 ⟨F34, r34, hs⟩
  refine D.back hs.to ?_
  refine D.act 7 rfl (by kernel_rfl) ?_
  refine R.cput (s23) (v34) hs rfl rfl rfl Tryd.underlying103 (by rfl) (by rfl) ?_
  intro w8_7 F8_7 m8_7 hs
  refine D.backT (by kernel_rfl) ?_
  refine D.done rfl (by kernel_rfl) ?_
  refine X.keep [(3, _), (22, _)] ⟨rfl, rfl, trivial⟩ ?_
  refine X.blockNormal ?_
  have hXn := hXd.new (lkM_none.2 hVk) r34
  rw [putM_new hVk] at m8_7 hXn
  rw [putM_new hMk] at hXn
  have hs := (show Sat K _ (Xd :: F34 :: F23 :: F8_7 :: row q 105 [.map (some c1), .map (some c2)] :: A3 :: Hs) from hs.to).join
  exact X.again (L23, Ls ++ [(s23, Value.slice ad Lk.length cp)], F23, _, _, F8_7, Xd ++ F34) ⟨rfl, rfl, trivial⟩ ⟨it23, hpm2, m8_7, hXn, by rw [hMd, List.map_append]; simp only [List.map_cons, List.map_nil, hLk], hs.to⟩ (by show L23.length < Lr.length; rw [pm23.length_eq]; simp)
theorem sum_le_sum {α : Type} : ∀ (l : List α) (f g : α → Nat), (∀ e ∈ l, f e ≤ g e) → (l.map f).sum ≤ (l.map g).sum
  | [], _, _, _ => by simp
  | a :: l, f, g, h => by
    have h1 := h a (by simp)
    have h2 := sum_le_sum l f g fun e he => h e (by simp [he])
    simp; omega
theorem hasR_app {A : List RO} {a : Vec 32} : hasR (L ++ A) a = (hasR L a || hasR A a) := by simp [hasR]
theorem merge_any (hI : KInv MK MR L) (hI2 : KInv MK2 MR2 L2) (hl : L.length ≤ 10000) (hl2 : L2.length ≤ 10000) (hs : Sat K w (F :: Rs)) [hw : KrL p MK MR F] [hw2 : KrIn q MK2 MR2 Rs] : Ret Tryd.prog 29 #[ptr p, ptr q] w fun r w' => r = .int .i64 0 ∧ AddP K Rs p (mrgL L L2) w' := by
  obtain ⟨n1, H1, n2, V2, H2, Yh, _, hn1, _, hn2, hH2, hY, hYi⟩ := hw2.ex
  obtain ⟨b, es, clock, rfl, rfl, hr⟩ := hn2.ex
  have hb : InH b (.map es clock) Rs := ⟨hH2.sub _ (by simp)⟩
  obtain ⟨f, hf⟩ : ∃ f : RO → Bool, f = fun r => !(hasR L r.id) := ⟨_, rfl⟩
  have hfl : ∀ M : List RO, (M.filter f).length ≤ M.length := fun M => List.length_filter_le _ _
  refine Ret.enter (n := 59) (args := [ptr p, ptr q]) Tryd.func29 rfl rfl ?_
  refine C.keep [(0, _), (1, _)] ⟨rfl, rfl, trivial⟩ ?_
  refine C.seq ?_
  refine C.region ?_
  refine R.ev rfl (E.assign rfl) ?_
  refine R.done ?_
  refine X.keep [(0, _), (1, _)] ⟨rfl, rfl, trivial⟩ ?_
  refine X.next ?_
  refine C.seq ?_
  refine C.seq ?_
  refine C.region ?_
  refine R.ev rfl (E.move rfl) ?_
  refine R.ev rfl (E.eqlNilF rfl rfl Tryd.underlying25) ?_
  refine R.ev rfl (E.move rfl) ?_
  refine R.gyes rfl rfl ?_
  refine R.ev rfl (E.move rfl) ?_
  refine R.gyes rfl rfl ?_
  refine R.ev rfl (E.eqlNilF rfl rfl Tryd.underlying25) ?_
  refine R.ev rfl (E.pickF rfl rfl) ?_
  refine R.done ?_
  refine X.keep [(0, _), (1, _), (17, _)] ⟨rfl, rfl, rfl, trivial⟩ ?_
  refine X.next ?_
  refine C.cfalse rfl ?_
  refine C.skip ?_
  refine X.next ?_
  refine C.seq ?_
  refine C.region ?_
  refine R.ev rfl (E.assign rfl) ?_
  refine R.done ?_
  refine X.keep [(0, _), (1, _), (5, _)] ⟨rfl, rfl, rfl, trivial⟩ ?_
  refine X.next ?_
  refine C.seq ?_
  refine C.seq ?_
  refine C.region ?_
  refine R.ev rfl (E.move rfl) ?_
  refine R.ev rfl (E.nilCheck rfl) ?_
  refine R.ev rfl (E.fieldAddr0 1 rfl Tryd.underlying105 rfl Tryd.sz103 rfl) ?_
  refine R.ev rfl (E.load1 rfl Tryd.underlying103 rfl (by exact hs.ld rfl)) ?_
  refine R.crange hs rfl Tryd.underlying103 (hr) rfl ?_
  intro r22 w22 F22 it22 hs
  refine R.done ?_
  refine X.keep [(0, _), (5, _), (22, _)] ⟨rfl, rfl, rfl, trivial⟩ ?_
  refine X.next ?_
  refine C.block ?_
  refine C.loop (T := MVl × MVl × Hl × Value × Hl) [(0, _), (22, _)] (fun (_, _, _, v, _) => [(5, v)]) (fun (Lr, Ls, Fi, v, Fa) w' => ItP ekT evV r22 b es clock Lr Fi ∧ (Ls ++ Lr).Perm V2 ∧ RowL 109 encO 84 v (Ls.flatMap fun e => ((lkM MR2 e.1).getD []).filter f) Fa ∧ (Ls.flatMap fun e => ((lkM MR2 e.1).getD []).filter f).length ≤ 10000 ∧ Sat K w' (Fa :: Fi :: F :: Rs)) (fun (Lr, _) => Lr.length) ((V2, [], F22, .slice none 0 0, [])) ⟨rfl, rfl, rfl, trivial⟩ ⟨it22, by simp, RowL.nil _ _ _, by simp, hs.nil.to⟩ ?_
  rintro ⟨Lr, Ls, Fi, v5, Fa⟩ w4 ⟨hit, hpm, ra, hla, hs⟩
  refine C.keep [(0, _), (5, _), (22, _)] ⟨rfl, rfl, rfl, trivial⟩ ?_
  refine C.seq ?_
  refine C.region ?_
  refine R.cnext hs rfl (hr) (hit) rfl ?_ ?_
  intro hover
  refine R.ev rfl (E.extract rfl rfl) ?_
  refine R.done ?_
  refine X.keep [(0, _), (5, _), (22, _), (24, _)] ⟨rfl, rfl, rfl, rfl, trivial⟩ ?_
  refine X.next ?_
  refine C.seq ?_
  refine C.cfalse rfl ?_
  refine C.exit ?_
  refine X.thenExit ?_
  refine X.loopExit ?_
  refine X.blockExit ?_
  refine X.next ?_
  refine C.seq ?_
  refine C.seq ?_
  refine C.region ?_
  rw [hover, List.append_nil] at hpm
  obtain ⟨A, hA⟩ : ∃ A, A = (Ls.flatMap fun e => ((lkM MR2 e.1).getD []).filter f) := ⟨_, rfl⟩
  have hAp : A.Perm (L2.filter f) := by
    rw [hA]
    refine (hpm.flatMap_right _).trans ?_
    have h2 := kinv_flat hI2
    rw [← hY.keys, List.flatMap_map] at h2
    have h3 := h2.filter f
    rwa [List.filter_flatMap] at h3
  rw [← hA] at ra hla
  obtain ⟨ad5, cp5, rfl, _⟩ := ra.val
  refine R.ev rfl (E.move rfl) ?_
  refine R.call ⟨_, _, Tryd.func28, rfl, by kernel_rfl⟩ rfl rfl (len_any hI hs) ?_
  rintro _ w131 ⟨rfl, hs⟩
  refine R.ev rfl (E.move rfl) ?_
  refine R.ev rfl (E.lenSl rfl Tryd.underlying101) ?_
  refine R.ev rfl (E.add rfl rfl (by omega) (by omega)) ?_
  refine R.ev rfl ((E.gtr rfl rfl).isF (by omega)) ?_
  refine R.done ?_
  refine X.keep [(0, _), (5, _), (48, _)] ⟨rfl, rfl, rfl, trivial⟩ ?_
  refine X.next ?_
  refine C.cfalse rfl ?_
  refine C.skip ?_
  refine X.next ?_
  refine C.seq ?_
  refine C.seq ?_
  refine C.region ?_
  refine R.ev rfl (E.move rfl) ?_
  refine R.ev rfl (E.lenSl rfl Tryd.underlying101) ?_
  refine R.ev rfl (E.move rfl) ?_
  refine R.done ?_
  refine X.keep [(0, _), (49, _), (50, _), (51, _)] ⟨rfl, rfl, rfl, rfl, trivial⟩ ?_
  refine X.next ?_
  refine C.block ?_
  refine C.loop (T := Nat × MKn × MRo × Hl) [(0, _), (49, _), (50, _)] (fun (k, _, _, _) => [(51, .int .i64 (k : Nat))]) (fun (k, MK', MR', F1) w' => k ≤ A.length ∧ KInv MK' MR' (L ++ A.take k) ∧ KrL p MK' MR' F1 ∧ Sat K w' (F1 :: Fa :: Rs)) (fun (k, _) => A.length - k) ((0, MK, MR, F)) ⟨rfl, rfl, rfl, rfl, trivial⟩ ⟨Nat.zero_le _, by simpa using hI, hw, hs.to⟩ ?_
  rintro ⟨k, MK', MR', F1⟩ w5 ⟨hk, hI', hw', hs⟩
  refine C.keep [(0, _), (49, _), (50, _), (51, _)] ⟨rfl, rfl, rfl, rfl, trivial⟩ ?_
  refine C.seq ?_
  refine C.region ?_
  refine R.ev rfl (E.lss rfl rfl) ?_
  refine R.done ?_
  refine X.keep [(0, _), (49, _), (50, _), (51, _), (52, _)] ⟨rfl, rfl, rfl, rfl, rfl, trivial⟩ ?_
  refine X.next ?_
  refine C.seq ?_
  refine C.cdec rfl (fun h52 => ?_) (fun h52 => ?_)
  obtain ⟨y, bk_y, of_y, hy, my, ly, rfl, Ay⟩ := hs.el (i := k) (ad := ad5) (n := A.length) (c := cp5) (by omega)
  have ay := Ay _ hs
  have hyf := List.mem_filter.1 (hAp.mem_iff.1 my)
  have hyL : hasR L y.id = false := by have := hyf.2; rw [hf] at this; simpa using this
  have hyA : hasR (A.take k) y.id = false := by
    rw [hasR_false]
    have hnd : (A.map RO.id).Nodup := (hAp.map RO.id).nodup_iff.2 (hI2.ok.nd.sublist (List.filter_sublist.map _))
    rw [← List.take_append_drop k A, List.map_append, List.nodup_append] at hnd
    intro hc
    refine hnd.2.2 y.id hc y.id ?_ rfl
    rw [List.drop_eq_getElem_cons (by omega)]
    have := (List.getElem?_eq_some_iff.1 hy).2
    rw [this]; simp
  refine C.skip ?_
  refine X.next ?_
  refine C.seq ?_
  refine C.block ?_
  refine C.seq ?_
  refine C.region ?_
  refine R.ev rfl (E.indexAddr rfl rfl Tryd.underlying101 Tryd.sz109 rfl (by omega)) ?_
  refine R.ev rfl (E.loadRowC rfl Tryd.underlying109 rfl Tryd.sz109 (by exact ⟨by assumption, by assumption⟩)) ?_
  refine R.sallocA hs Tryd.zr109 rfl ?_
  intro b11 w11 hs
  refine R.cstoreAll hs rfl rfl Tryd.sz109 (by rfl) (by assumption) (by exact Enc.one _) ?_
  intro w17_3 hs
  try simp only [List.set_cons_zero, List.set_cons_succ] at hs
  refine R.done ?_
  refine X.keep [(0, _), (11, _), (49, _), (50, _), (51, _)] ⟨rfl, rfl, rfl, rfl, rfl, trivial⟩ ?_
  refine X.next ?_
  refine C.region ?_
  refine R.ev rfl (E.move rfl) ?_
  refine R.ev rfl (E.loadRowC rfl Tryd.underlying109 rfl Tryd.sz109 (by exact ⟨hs.ldA, by assumption⟩)) ?_
  refine R.call ⟨_, _, Tryd.func49, rfl, by kernel_rfl⟩ rfl rfl (insert_any (hI2.ok.good y hyf.1) (by rw [hasR_app, hyL, hyA]; rfl) hI' (by rw [List.length_append, List.length_take]; omega) (hs.front (F := F1))) ?_
  rintro v18 w18 ⟨MK3, MR3, F3, hI3, hw3, hs1⟩
  have hs := hs.back (F := F1) hs1
  refine R.done ?_
  refine X.keep [(0, _), (49, _), (50, _), (51, _)] ⟨rfl, rfl, rfl, rfl, trivial⟩ ?_
  refine X.blockNormal ?_
  refine X.next ?_
  refine C.region ?_
  refine R.ev rfl (E.add rfl rfl (by omega) (by omega)) ?_
  refine R.ev rfl (E.move rfl) ?_
  refine R.done ?_
  refine X.keep [(0, _), (49, _), (50, _), (51, _)] ⟨rfl, rfl, rfl, rfl, trivial⟩ ?_
  exact X.again (k + 1, MK3, MR3, F3) ⟨rfl, rfl, rfl, rfl, trivial⟩ ⟨by omega, by rw [take_snoc hy, ← List.append_assoc]; exact hI3, hw3, hs.to⟩ (by show _ - _ < _ - _; omega)
  refine C.exit ?_
  refine X.thenExit ?_
  refine X.loopExit ?_
  refine X.blockExit ?_
  refine X.next ?_
  refine C.seq ?_
  refine C.region ?_
  refine R.ev rfl (E.assign rfl) ?_
  refine R.done ?_
  refine X.keep [(4, _)] ⟨rfl, trivial⟩ ?_
  refine X.next ?_
  refine C.ret ?_
  refine X.ret1 rfl rfl ?_
  rw [List.take_of_length_le (show A.length ≤ k by omega)] at hI'
  refine ⟨rfl, MK', MR', F1, hI'.perm ?_ (mrg_ok hI.ok hI2.ok), hw', hs.to⟩
  rw [mrgL, ← hf]
  exact List.Perm.append_left _ hAp.symm
  intro p23 L23 w23 F23 pm23 mm23 it23 hs hent
  obtain ⟨s23, v23⟩ := p23
  have hpV : (s23, v23) ∈ V2 := hpm.subset (List.mem_append_right _ mm23)
  obtain ⟨Lk, Fk, hk1, hk2, hk3⟩ := allR_mem hY hpV
  have hFk : FIn Fk Rs := hYi.mono hk3
  obtain ⟨ad, cp, rfl, _⟩ := hk2.val
  have hLk : (lkM MR2 s23).getD [] = Lk := by rw [lkM_of_mem hI2.nd hk1]; rfl
  have hLl : Lk.length ≤ 10000 := by have h1 := (hI2.sl s23).length_eq; rw [hLk] at h1; have h2 := List.length_filter_le (atS s23.1 s23.2) L2; unfold slotL at h1; omega
  have hpm2 : ((Ls ++ [(s23, Value.slice ad Lk.length cp)]) ++ L23).Perm V2 := by
    refine List.Perm.trans ?_ hpm
    rw [List.append_assoc]
    exact List.Perm.append_left _ pm23.symm
  have hfm : (Ls ++ [(s23, Value.slice ad Lk.length cp)]).flatMap (fun e => ((lkM MR2 e.1).getD []).filter f) = Ls.flatMap (fun e => ((lkM MR2 e.1).getD []).filter f) ++ Lk.filter f := by rw [List.flatMap_append]; simp [hLk]
  have htot : ((Ls ++ [(s23, Value.slice ad Lk.length cp)]).flatMap (fun e => ((lkM MR2 e.1).getD []).filter f)).length ≤ 10000 := by
    have h1 : ((V2.flatMap fun e => ((lkM MR2 e.1).getD []).filter f)).length ≤ L2.length := by
      have h2 := (kinv_flat hI2).length_eq
      rw [← hY.keys, List.flatMap_map] at h2
      rw [← h2, List.length_flatMap, List.length_flatMap]
      exact sum_le_sum _ _ _ fun e _ => hfl _
    have h3 := (hpm2.flatMap_right (fun e => ((lkM MR2 e.1).getD []).filter f)).length_eq
    rw [List.flatMap_append, List.length_append] at h3
    omega
  rw [hfm, List.length_append] at htot
  generalize (Ls.flatMap fun e => ((lkM MR2 e.1).getD []).filter f) = A0 at ra hla hfm htot
  refine R.ev rfl (E.extract rfl rfl) ?_
  refine R.done ?_
  refine X.keep [(0, _), (5, _), (22, _), (24, _)] ⟨rfl, rfl, rfl, rfl, trivial⟩ ?_
  refine X.next ?_
  refine C.seq ?_
  refine C.ctrue rfl ?_
  refine C.skip ?_
  refine X.next ?_
  refine C.block ?_
  refine C.seq ?_
  refine C.region ?_
  refine R.ev rfl (E.entryC rfl (hent _ hs)) ?_
  refine R.ev rfl (E.extract rfl rfl) ?_
  refine R.ev rfl (E.assign rfl) ?_
  refine R.done ?_
  refine X.keep [(0, _), (5, _), (7, _), (22, _)] ⟨rfl, rfl, rfl, rfl, trivial⟩ ?_
  refine X.next ?_
  refine C.seq ?_
  refine C.region ?_
  refine R.ev rfl (E.move rfl) ?_
  refine R.ev rfl (E.lenSl rfl Tryd.underlying101) ?_
  refine R.ev rfl (E.move rfl) ?_
  refine R.done ?_
  refine X.keep [(0, _), (5, _), (22, _), (27, _), (28, _), (29, _)] ⟨rfl, rfl, rfl, rfl, rfl, rfl, trivial⟩ ?_
  refine X.next ?_
  refine C.block ?_
  refine C.loop (T := Nat × Value × Hl) [(0, _), (22, _), (27, _), (28, _)] (fun (k, v, _) => [(5, v), (29, .int .i64 (k : Nat))]) (fun (k, v, Fa) w' => k ≤ Lk.length ∧ RowL 109 encO 84 v (A0 ++ (Lk.take k).filter f) Fa ∧ Sat K w' (Fa :: F23 :: F :: Rs)) (fun (k, _) => Lk.length - k) ((0, v5, Fa)) ⟨rfl, rfl, rfl, rfl, rfl, rfl, trivial⟩ ⟨Nat.zero_le _, by simpa using ra, hs⟩ ?_
  rintro ⟨k, v6, Fb⟩ w5 ⟨hk, rb, hs⟩
  have hlb : (A0 ++ (Lk.take k).filter f).length ≤ 20000 := by rw [List.length_append]; have := hfl (Lk.take k); rw [List.length_take] at this; omega
  refine C.keep [(0, _), (5, _), (22, _), (27, _), (28, _), (29, _)] ⟨rfl, rfl, rfl, rfl, rfl, rfl, trivial⟩ ?_
  refine C.seq ?_
  refine C.region ?_
  refine R.ev rfl (E.lss rfl rfl) ?_
  refine R.done ?_
  refine X.keep [(0, _), (5, _), (22, _), (27, _), (28, _), (29, _), (30, _)] ⟨rfl, rfl, rfl, rfl, rfl, rfl, rfl, trivial⟩ ?_
  refine X.next ?_
  refine C.seq ?_
  refine C.cdec rfl (fun h30 => ?_) (fun h30 => ?_)
  obtain ⟨y, bk_y, of_y, hy, my, ly, rfl, Ay⟩ := hs.el (i := k) (ad := ad) (n := Lk.length) (c := cp) (by omega)
  have ay := Ay _ hs
  refine C.skip ?_
  refine X.next ?_
  refine C.seq ?_
  refine C.block ?_
  refine C.seq ?_
  refine C.region ?_
  refine R.ev rfl (E.indexAddr rfl rfl Tryd.underlying101 Tryd.sz109 rfl (by omega)) ?_
  refine R.ev rfl (E.loadRowC rfl Tryd.underlying109 rfl Tryd.sz109 (by exact ⟨by assumption, by assumption⟩)) ?_
  refine R.sallocA hs Tryd.zr109 rfl ?_
  intro b9 w9 hs
  refine R.cstoreAll hs rfl rfl Tryd.sz109 (by rfl) (by assumption) (by exact Enc.one _) ?_
  intro w9_3 hs
  try simp only [List.set_cons_zero, List.set_cons_succ] at hs
  refine R.done ?_
  refine X.keep [(0, _), (5, _), (9, _), (22, _), (27, _), (28, _), (29, _)] ⟨rfl, rfl, rfl, rfl, rfl, rfl, rfl, trivial⟩ ?_
  refine X.next ?_
  refine C.seq ?_
  refine C.region ?_
  refine R.ev rfl (E.move rfl) ?_
  refine R.ev rfl (E.fieldAddr0 0 rfl Tryd.underlying109 rfl Tryd.sz59 rfl) ?_
  refine R.ev rfl (E.loadRowC rfl Tryd.underlying59 rfl Tryd.sz59 (by exact ⟨hs.ldP rfl, by exact encV_len _⟩)) ?_
  refine R.call ⟨_, _, Tryd.func32, rfl, by kernel_rfl⟩ rfl rfl (has_any y.id hI hs) ?_
  rintro _ w103 ⟨rfl, hs⟩
  refine R.ev rfl ((E.not rfl).isB (c := f y) (by rw [hf])) ?_
  refine R.done ?_
  refine X.keep [(0, _), (5, _), (9, _), (22, _), (27, _), (28, _), (29, _), (37, _)] ⟨rfl, rfl, rfl, rfl, rfl, rfl, rfl, rfl, trivial⟩ ?_
  refine X.next ?_
  refine C.cbool rfl (fun h37 => ?_) (fun h37 => ?_)
  refine C.region ?_
  refine R.ev rfl (E.move rfl) ?_
  refine R.ev rfl (E.loadRowC rfl Tryd.underlying109 rfl Tryd.sz109 (by exact ⟨hs.ldA, by assumption⟩)) ?_
  refine R.buildSliceA rfl Tryd.underlying101 Tryd.sz109 Tryd.zr109 rfl (by assumption) (by decide) (by decide) ?_
  intro b40 w40 n40
  have hs := hs.new n40
  refine R.capp1 (y) hs rfl rfl Tryd.underlying101 Tryd.by109 (by rfl) rfl (by exact hs.ldA) (by decide) (by omega) (by omega) ?_
  intro v41 w41 F41 r41 hs
  refine R.ev rfl (E.assign rfl) ?_
  refine R.done ?_
  refine X.keep [(0, _), (5, _), (22, _), (27, _), (28, _), (29, _)] ⟨rfl, rfl, rfl, rfl, rfl, rfl, trivial⟩ ?_
  refine X.blockNormal ?_
  refine X.next ?_
  refine C.region ?_
  refine R.ev rfl (E.add rfl rfl (by omega) (by omega)) ?_
  refine R.ev rfl (E.move rfl) ?_
  refine R.done ?_
  refine X.keep [(0, _), (5, _), (22, _), (27, _), (28, _), (29, _)] ⟨rfl, rfl, rfl, rfl, rfl, rfl, trivial⟩ ?_
  first
    | exact X.again (k + 1, v41, F41) ⟨rfl, rfl, rfl, rfl, rfl, rfl, trivial⟩ ⟨by omega, by rw [take_snoc hy, List.filter_append, List.filter_cons_of_pos h37, ← List.append_assoc]; exact r41, hs.to⟩ (by show _ - _ < _ - _; omega)
    | exact X.again (k + 1, v6, Fb) ⟨rfl, rfl, rfl, rfl, rfl, rfl, trivial⟩ ⟨by omega, by rw [take_snoc hy, List.filter_append, List.filter_cons_of_neg (by rw [h37]; decide)]; simpa using rb, hs.to⟩ (by show _ - _ < _ - _; omega)
  refine C.skip ?_
  refine X.blockNormal ?_
  refine X.next ?_
  refine C.region ?_
  refine R.ev rfl (E.add rfl rfl (by omega) (by omega)) ?_
  refine R.ev rfl (E.move rfl) ?_
  refine R.done ?_
  refine X.keep [(0, _), (5, _), (22, _), (27, _), (28, _), (29, _)] ⟨rfl, rfl, rfl, rfl, rfl, rfl, trivial⟩ ?_
  first
    | exact X.again (k + 1, v41, F41) ⟨rfl, rfl, rfl, rfl, rfl, rfl, trivial⟩ ⟨by omega, by rw [take_snoc hy, List.filter_append, List.filter_cons_of_pos h37, ← List.append_assoc]; exact r41, hs.to⟩ (by show _ - _ < _ - _; omega)
    | exact X.again (k + 1, v6, Fb) ⟨rfl, rfl, rfl, rfl, rfl, rfl, trivial⟩ ⟨by omega, by rw [take_snoc hy, List.filter_append, List.filter_cons_of_neg (by rw [h37]; decide)]; simpa using rb, hs.to⟩ (by show _ - _ < _ - _; omega)
  refine C.exit ?_
  refine X.thenExit ?_
  refine X.loopExit ?_
  refine X.blockExit ?_
  refine X.blockNormal ?_
  rw [List.take_of_length_le (show Lk.length ≤ k by omega)] at rb
  exact X.again (L23, Ls ++ [(s23, Value.slice ad Lk.length cp)], F23, v6, Fb) ⟨rfl, rfl, rfl, trivial⟩ ⟨it23, hpm2, by rw [hfm]; exact rb, by rw [hfm, List.length_append]; exact htot, hs.to⟩ (by show L23.length < Lr.length; rw [pm23.length_eq]; simp)
end Go.Proofs.YtbkgibgomohdjaaDoor
