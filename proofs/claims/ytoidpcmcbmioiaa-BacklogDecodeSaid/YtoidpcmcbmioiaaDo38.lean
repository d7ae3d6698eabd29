/-
  package bulletinlaw38: an operation on a backlog and on the reference.
-/
import Derived.Test.YtoidpcmcbmioiaaSim38
namespace Go.Proofs.Ytoidpcmcbmioiaa
open Go.Eng Go.RowKit

theorem same_any {K : Kn} {Hs : List Hl} {L M : List (Vec 32)} {v v' : Value} {w : World} (hs : Sat K w Hs) [h1 : Rd encV 32 K Hs v L] [h2 : Rd encV 32 K Hs v' M] (hn : L.length ≤ 9223372036854775807) :
    Ret Try.prog 54 #[v, v'] w fun v w' => v = .bool (decide (L = M)) ∧ Sat K w' Hs := by
  obtain ⟨ad, c, rfl, _⟩ := h1.ex
  obtain ⟨ad', c', rfl, _⟩ := h2.ex
  refine Ret.enter (n := 26) (args := [.slice ad L.length c, .slice ad' M.length c']) Try.func54 rfl rfl ?_
  refine C.keep [(0, _), (1, _)] ⟨rfl, rfl, trivial⟩ ?_
  refine C.seq ?_
  refine C.region ?_
  refine R.ev rfl (E.assign rfl) ?_
  refine R.done ?_
  refine X.keep [(0, _), (1, _)] ⟨rfl, rfl, trivial⟩ ?_
  refine X.next ?_
  refine C.seq ?_
  refine C.seq ?_
  refine C.region ?_
  refine R.ev rfl (E.move rfl) ?_
  refine R.ev rfl (E.lenSl rfl Try.underlying40) ?_
  refine R.ev rfl (E.move rfl) ?_
  refine R.ev rfl (E.lenSl rfl Try.underlying31) ?_
  refine R.ev rfl (E.neq rfl rfl) ?_
  refine R.done ?_
  refine X.keep [(0, _), (1, _), (10, _)] ⟨rfl, rfl, rfl, trivial⟩ ?_
  refine X.next ?_
  refine C.cdec rfl (fun h10 => ?_) (fun h10 => ?_)
  · refine C.seq ?_
    refine C.region ?_
    refine R.ev rfl (E.assign rfl) ?_
    refine R.done ?_
    refine X.keep [(4, _)] ⟨rfl, trivial⟩ ?_
    refine X.next ?_
    refine C.ret ?_
    refine X.thenRet ?_
    refine X.ret1 rfl rfl ?_
    exact ⟨by rw [decide_eq_false]; intro e; rw [e] at h10; omega, hs⟩
  · refine C.skip ?_
    refine X.next ?_
    refine C.seq ?_
    refine C.seq ?_
    refine C.region ?_
    refine R.ev rfl (E.assign rfl) ?_
    refine R.done ?_
    refine X.keep [(0, _), (1, _), (5, _)] ⟨rfl, rfl, rfl, trivial⟩ ?_
    refine X.next ?_
    refine C.block ?_
    refine C.loop  [(0, _), (1, _)] (fun k => [(5, .int .i64 (k : Nat))]) (fun k w' => k ≤ L.length ∧ Sat K w' Hs ∧ L.take k = M.take k) (fun k => L.length - k) (0) ⟨rfl, rfl, rfl, trivial⟩ ⟨Nat.zero_le _, hs, rfl⟩ ?_
    rintro k w1 ⟨hk, hs, htk⟩
    refine C.keep [(0, _), (1, _), (5, _)] ⟨rfl, rfl, rfl, trivial⟩ ?_
    refine C.seq ?_
    refine C.seq ?_
    refine C.region ?_
    refine R.ev rfl (E.move rfl) ?_
    refine R.ev rfl (E.move rfl) ?_
    refine R.ev rfl (E.lenSl rfl Try.underlying40) ?_
    refine R.ev rfl (E.lss rfl rfl) ?_
    refine R.done ?_
    refine X.keep [(0, _), (1, _), (5, _), (14, _)] ⟨rfl, rfl, rfl, rfl, trivial⟩ ?_
    refine X.next ?_
    refine C.cdec rfl (fun h14 => ?_) (fun h14 => ?_)
    · obtain ⟨y, bk_y, of_y, hy, my, ly, rfl, Ay⟩ := hs.el (i := k) (ad := ad) (n := L.length) (c := c) (by omega)
      have ay := Ay _ hs
      obtain ⟨z, bk_z, of_z, hz, mz, lz, rfl, Az⟩ := hs.el (i := k) (ad := ad') (n := M.length) (c := c') (by omega)
      have az := Az _ hs
      refine C.skip ?_
      refine X.next ?_
      refine C.seq ?_
      refine C.block ?_
      refine C.seq ?_
      refine C.drawn (SatS hs) ([3, 7], [0, 1, 2, 4, 5, 6, 8]) (by kernel_rfl) ?_
      have hs := hs.drew
      refine D.evP 0 rfl (by kernel_rfl) rfl (fun _ => hs.to) (fun _ => E.move rfl) ?_
      refine D.evP 1 rfl (by kernel_rfl) rfl (fun _ => hs.to) (fun _ => E.move rfl) ?_
      refine D.evP 2 rfl (by kernel_rfl) rfl (fun _ => hs.to) (fun _ => E.indexAddr rfl rfl Try.underlying40 Try.sz30 rfl (by first | omega | decide)) ?_
      refine D.evP 4 rfl (by kernel_rfl) rfl (fun _ => hs.to) (fun _ => E.move rfl) ?_
      refine D.evP 5 rfl (by kernel_rfl) rfl (fun _ => hs.to) (fun _ => E.move rfl) ?_
      refine D.evP 6 rfl (by kernel_rfl) rfl (fun _ => hs.to) (fun _ => E.indexAddr rfl rfl Try.underlying31 Try.sz29 rfl (by first | omega | decide)) ?_
      refine D.ev 3 rfl (by kernel_rfl) rfl hs.to (fun _ hS => E.loadRow rfl Try.underlying30 rfl Try.sz30 (Ay _ hS) ly) ?_
      refine D.ev 7 rfl (by kernel_rfl) rfl hs.to (fun _ hS => E.loadRow rfl Try.underlying29 rfl Try.sz29 (Az _ hS) lz) ?_
      refine D.evP 8 rfl (by kernel_rfl) rfl (fun _ => hs.to) (fun _ => (E.neV 10 rfl rfl Try.lv30 rfl Try.underlying30 rfl Try.gd30).isB (c := decide (y ≠ z)) rfl) ?_
      refine D.done rfl (by kernel_rfl) ?_
      refine X.keep [(0, _), (1, _), (5, _), (25, _)] ⟨rfl, rfl, rfl, rfl, trivial⟩ ?_
      refine X.next ?_
      refine C.cdec rfl (fun h25 => ?_) (fun h25 => ?_)
      · refine C.seq ?_
        refine C.region ?_
        refine R.ev rfl (E.assign rfl) ?_
        refine R.done ?_
        refine X.keep [(4, _)] ⟨rfl, trivial⟩ ?_
        refine X.next ?_
        refine C.ret ?_
        refine X.blockRet ?_
        refine X.thenRet ?_
        refine X.loopRet ?_
        refine X.blockRet ?_
        refine X.thenRet ?_
        refine X.ret1 rfl rfl ?_
        exact ⟨by rw [decide_eq_false]; intro e; rw [e, hz] at hy; exact h25 (by simpa using hy.symm), hs⟩
      · refine C.skip ?_
        refine X.blockNormal ?_
        refine X.next ?_
        refine C.region ?_
        refine R.ev rfl (E.move rfl) ?_
        refine R.ev rfl (E.add rfl rfl (by omega) (by omega)) ?_
        refine R.ev rfl (E.assign rfl) ?_
        refine R.done ?_
        refine X.keep [(0, _), (1, _), (5, _)] ⟨rfl, rfl, rfl, trivial⟩ ?_
        exact X.again (k + 1) ⟨rfl, rfl, rfl, trivial⟩ ⟨by omega, hs, by rw [take_snoc hy, take_snoc hz, htk, Decidable.not_not.1 h25]⟩ (by omega)
    · refine C.exit ?_
      refine X.thenExit ?_
      refine X.loopExit ?_
      refine X.blockExit ?_
      refine X.next ?_
      refine C.seq ?_
      refine C.region ?_
      refine R.ev rfl (E.assign rfl) ?_
      refine R.done ?_
      refine X.keep [(4, _)] ⟨rfl, trivial⟩ ?_
      refine X.next ?_
      refine C.ret ?_
      refine X.ret1 rfl rfl ?_
      exact ⟨by rw [decide_eq_true]; rw [← List.take_length (l := L), ← List.take_length (l := M), show M.length = L.length by omega]; rwa [show k = L.length by omega] at htk, hs⟩
variable {K : Kn} {Hs Rs : List Hl} {F : Hl} {w : World} {p : Nat} {s : Bk} {v : Value}
/-- what an operation makes of a backlog -/
def opS (s : Bk) (o : Op38) : Bk := if o.kind = 0 then offS s o.id else if o.kind = 1 then ansS s o.id else if o.kind = 2 then latS s o.id o.now else if o.kind = 3 then addS s o.id o.now else if o.kind = 4 then remS s o.id else if o.kind = 5 then { s with M := [] } else if o.kind = 6 then scanS s o.now o.ids else s
/-- as far as the numbers of tries go -/
def TOk (k : Nat) (s : Bk) : Prop := ∀ e ∈ s.L, 0 ≤ e.tries ∧ e.tries ≤ k
theorem BInv.wt {s : Bk} (h : BInv s) : 0 ≤ s.wait ∧ s.wait ≤ 100000 := by
  have := h.ok; simp [newOk, isWt] at this; exact this.2
theorem BInv.cp {s : Bk} (h : BInv s) : s.cap ≤ 4096 := by
  have := h.ok; simp [newOk, isCap] at this; omega
theorem do_any {k : Nat} (o : Op38) (hI : BInv s) (hT : TOk k s) (hk : k ≤ 100) (hs : Sat K w (F :: Rs)) [hw : BkL p s F] [hr : KRow encRE 35 K v (vw s).L] (hok : OpOk K o) (hn : o.n ≤ 20) :
    Ret Try.prog 38 #[ptr p, (vw s).v v, .agg (encP o).toArray] w fun r w' => ∃ K' v' F', r = .tuple #[(vw (opS s o)).v v', .bool true] ∧ KLe K K' ∧ KRow encRE 35 K' v' (vw (opS s o)).L ∧ BkL p (opS s o) F' ∧ Sat K' w' (F' :: Rs) := by
  have hlen : s.L.length ≤ 4096 := by have := hI.le; have := hI.cp; omega
  have hvl := vw_len s
  have e1 := encV_len o.id
  have o1 : OneC v := ⟨KRow.oneC' hr⟩
  have hkr := hok.1
  have hidn := hok.2
  have htr : ∀ e ∈ (vw s).L, 0 ≤ e.tries ∧ e.tries ≤ 4611686018427387904 := by
    intro e he
    obtain ⟨x, hx, rfl⟩ := List.mem_map.1 he
    have := hT x hx
    simp only [vwE]; omega
  have htr2 : ∀ e ∈ s.L, 0 ≤ e.tries ∧ e.tries ≤ 4611686018427387904 := fun e he => by have := hT e he; omega
  refine Ret.enter (n := 163) (args := [ptr p, (vw s).v v, .agg (encP o).toArray]) Try.func38 rfl rfl ?_
  refine C.keep [(0, _), (1, _), (2, _)] ⟨rfl, rfl, rfl, trivial⟩ ?_
  refine C.seq ?_
  refine C.region ?_
  refine R.sboxA hs rfl rfl ?_
  intro b4 w4 hs
  refine R.sboxA hs rfl rfl ?_
  intro b5 w5 hs
  refine R.sallocA hs Try.zr52 rfl ?_
  intro b6 w6 hs
  refine R.ev rfl (E.assign rfl) ?_
  refine R.done ?_
  refine X.keep [(0, _), (4, _), (5, _), (6, _)] ⟨rfl, rfl, rfl, rfl, trivial⟩ ?_
  refine X.next ?_
  refine C.seq ?_
  refine C.region ?_
  first | refine R.ev rfl (E.fieldAddr0 1 rfl Try.underlying33 rfl Try.sz29 rfl) ?_ | refine R.ev rfl (E.fieldAddrN 1 rfl Try.underlying33 rfl Try.sz29 rfl) ?_
  refine R.ev rfl (E.loadRowC rfl Try.underlying29 rfl Try.sz29 (by first | exact ⟨hs.ldA, by first | rfl | assumption | exact encV_len _ | exact Enc.len _ | exact len_ub (by assumption)⟩ | exact ⟨hs.ldP rfl, by first | rfl | assumption | exact encV_len _ | exact Enc.len _ | exact len_ub (by assumption)⟩ | exact ⟨hs.ldM rfl rfl, by first | rfl | assumption | exact encV_len _ | exact Enc.len _ | exact len_ub (by assumption)⟩ | exact ⟨hs.ldM (by assumption) (by first | rfl | assumption), by first | rfl | assumption | exact encV_len _ | exact Enc.len _ | exact len_ub (by assumption)⟩ | exact ⟨by assumption, by first | rfl | assumption | exact encV_len _ | exact Enc.len _ | exact len_ub (by assumption)⟩ | exact hs.ldp | exact At.partC (by assumption))) ?_
  refine R.sallocA hs Try.zr30 rfl ?_
  intro b8 w8 hs
  first | refine R.cstoreAll hs rfl rfl Try.sz30 (by first | rfl | assumption | exact encV_len _ | exact Enc.len _ | exact len_ub (by assumption) | simp [*]) (by first | rfl | assumption | exact encV_len _ | exact Enc.len _ | exact len_ub (by assumption) | simp [*]) (by first | assumption | exact OneL.all | exact Enc.one _ | exact ub_all _ | (repeat' (first | refine List.forall_mem_cons.2 ⟨?_, ?_⟩ | exact List.forall_mem_nil _ | rfl | exact OneC.one | exact KRow.oneC' (by assumption)))) ?_ | refine R.cstore hs rfl rfl Try.sz30 (by first | rfl | assumption | exact encV_len _ | exact Enc.len _ | exact len_ub (by assumption) | simp [*]) (by simp [*]) (by first | assumption | exact OneL.all | exact Enc.one _ | exact ub_all _ | (repeat' (first | refine List.forall_mem_cons.2 ⟨?_, ?_⟩ | exact List.forall_mem_nil _ | rfl | exact OneC.one | exact KRow.oneC' (by assumption)))) ?_
  intro w1_3 hs
  try simp only [List.set_cons_zero, List.set_cons_succ] at hs
  refine R.done ?_
  refine X.keep [(0, _), (4, _), (5, _), (6, _), (8, _)] ⟨rfl, rfl, rfl, rfl, rfl, trivial⟩ ?_
  refine X.next ?_
  refine C.seq ?_
  refine C.region ?_
  refine R.ev rfl (E.assign rfl) ?_
  refine R.ev rfl (E.assign rfl) ?_
  refine R.done ?_
  refine X.keep [(0, _), (4, _), (5, _), (6, _), (8, _), (9, _), (10, _)] ⟨rfl, rfl, rfl, rfl, rfl, rfl, rfl, trivial⟩ ?_
  refine X.next ?_
  refine C.seq ?_
  refine C.seq ?_
  refine C.region ?_
  first | refine R.ev rfl (E.fieldAddr0 0 rfl Try.underlying33 rfl Try.sz3 rfl) ?_ | refine R.ev rfl (E.fieldAddrN 0 rfl Try.underlying33 rfl Try.sz3 rfl) ?_
  refine R.ev rfl (E.load1 rfl Try.underlying3 rfl (by first | exact hs.ldc | exact hs.ld rfl | exact hs.ld (by assumption) | exact by assumption | exact At.cellC (by assumption))) ?_
  refine R.done ?_
  refine X.keep [(0, _), (4, _), (5, _), (6, _), (8, _), (9, _), (10, _), (25, _)] ⟨rfl, rfl, rfl, rfl, rfl, rfl, rfl, rfl, trivial⟩ ?_
  refine X.next ?_
  refine C.block ?_
  refine C.seq ?_
  refine C.region ?_
  refine R.ev rfl (E.eql rfl rfl) ?_
  refine R.ev rfl (E.assign rfl) ?_
  refine R.done ?_
  refine X.keep [(0, _), (4, _), (5, _), (6, _), (8, _), (9, _), (10, _), (25, _), (26, _)] ⟨rfl, rfl, rfl, rfl, rfl, rfl, rfl, rfl, rfl, trivial⟩ ?_
  refine X.next ?_
  refine C.cdec rfl (fun h26 => ?_) (fun h26 => ?_)
  · have hop : opS s o = offS s o.id := by unfold opS; rw [if_pos h26]
    refine C.seq ?_
    refine C.region ?_
    refine R.ev rfl (E.move rfl) ?_
    refine R.ev rfl (E.loadRowC rfl Try.underlying30 rfl Try.sz30 (by first | exact ⟨hs.ldA, by first | rfl | assumption | exact encV_len _ | exact Enc.len _ | exact len_ub (by assumption)⟩ | exact ⟨hs.ldP rfl, by first | rfl | assumption | exact encV_len _ | exact Enc.len _ | exact len_ub (by assumption)⟩ | exact ⟨hs.ldM rfl rfl, by first | rfl | assumption | exact encV_len _ | exact Enc.len _ | exact len_ub (by assumption)⟩ | exact ⟨hs.ldM (by assumption) (by first | rfl | assumption), by first | rfl | assumption | exact encV_len _ | exact Enc.len _ | exact len_ub (by assumption)⟩ | exact ⟨by assumption, by first | rfl | assumption | exact encV_len _ | exact Enc.len _ | exact len_ub (by assumption)⟩ | exact hs.ldp | exact At.partC (by assumption))) ?_
    refine R.call ⟨_, _, Try.func20, rfl, by kernel_rfl⟩ rfl rfl (offered_any o.id (hs.front (F := F))) ?_
    rintro _ w5 ⟨rfl, F1, hw1, hs1⟩
    have hs := hs.back (F := F) hs1
    refine R.ev rfl (E.assign rfl) ?_
    refine R.done ?_
    refine X.keep [(4, _), (5, _), (6, _), (9, _)] ⟨rfl, rfl, rfl, rfl, trivial⟩ ?_
    refine X.next ?_
    refine C.region ?_
    refine R.ev rfl (E.loadRowC rfl Try.underlying52 rfl Try.sz52 (by first | exact ⟨hs.ldA, by first | rfl | assumption | exact encV_len _ | exact Enc.len _ | exact len_ub (by assumption)⟩ | exact ⟨hs.ldP rfl, by first | rfl | assumption | exact encV_len _ | exact Enc.len _ | exact len_ub (by assumption)⟩ | exact ⟨hs.ldM rfl rfl, by first | rfl | assumption | exact encV_len _ | exact Enc.len _ | exact len_ub (by assumption)⟩ | exact ⟨hs.ldM (by assumption) (by first | rfl | assumption), by first | rfl | assumption | exact encV_len _ | exact Enc.len _ | exact len_ub (by assumption)⟩ | exact ⟨by assumption, by first | rfl | assumption | exact encV_len _ | exact Enc.len _ | exact len_ub (by assumption)⟩ | exact hs.ldp | exact At.partC (by assumption))) ?_
    first | refine R.ev rfl (E.fieldAddr0 1 rfl Try.underlying33 rfl Try.sz29 rfl) ?_ | refine R.ev rfl (E.fieldAddrN 1 rfl Try.underlying33 rfl Try.sz29 rfl) ?_
    refine R.ev rfl (E.loadRowC rfl Try.underlying29 rfl Try.sz29 (by first | exact ⟨hs.ldA, by first | rfl | assumption | exact encV_len _ | exact Enc.len _ | exact len_ub (by assumption)⟩ | exact ⟨hs.ldP rfl, by first | rfl | assumption | exact encV_len _ | exact Enc.len _ | exact len_ub (by assumption)⟩ | exact ⟨hs.ldM rfl rfl, by first | rfl | assumption | exact encV_len _ | exact Enc.len _ | exact len_ub (by assumption)⟩ | exact ⟨hs.ldM (by assumption) (by first | rfl | assumption), by first | rfl | assumption | exact encV_len _ | exact Enc.len _ | exact len_ub (by assumption)⟩ | exact ⟨by assumption, by first | rfl | assumption | exact encV_len _ | exact Enc.len _ | exact len_ub (by assumption)⟩ | exact hs.ldp | exact At.partC (by assumption))) ?_
    refine R.call ⟨_, _, Try.func66, rfl, by kernel_rfl⟩ rfl rfl (rchange_any (s := vw s) (v := v) 0 o.id 0 hs (by omega) hI.wt htr (.inl rfl)) ?_
    rintro _ w6 ⟨K2, v2, rfl, hk2, hr2, hs⟩
    have o2 : OneC v2 := ⟨KRow.oneC' hr2⟩
    rw [← offS_vw hI, ← hop] at hr2
    rw [offE_vw, ← offS_vw hI, ← hop]
    rw [← hop] at hw1
    refine R.ev rfl (E.move rfl) ?_
    refine R.ev rfl (E.extract rfl rfl) ?_
    refine R.ev rfl (E.extract rfl rfl) ?_
    first | refine R.cstoreAll hs rfl rfl Try.sz52 (by first | rfl | assumption | exact encV_len _ | exact Enc.len _ | exact len_ub (by assumption) | simp [*]) (by first | rfl | assumption | exact encV_len _ | exact Enc.len _ | exact len_ub (by assumption) | simp [*]) (by first | assumption | exact OneL.all | exact Enc.one _ | exact ub_all _ | (repeat' (first | refine List.forall_mem_cons.2 ⟨?_, ?_⟩ | exact List.forall_mem_nil _ | rfl | exact OneC.one | exact KRow.oneC' (by assumption)))) ?_ | refine R.cstore hs rfl rfl Try.sz52 (by first | rfl | assumption | exact encV_len _ | exact Enc.len _ | exact len_ub (by assumption) | simp [*]) (by simp [*]) (by first | assumption | exact OneL.all | exact Enc.one _ | exact ub_all _ | (repeat' (first | refine List.forall_mem_cons.2 ⟨?_, ?_⟩ | exact List.forall_mem_nil _ | rfl | exact OneC.one | exact KRow.oneC' (by assumption)))) ?_
    intro w6_7 hs
    try simp only [List.set_cons_zero, List.set_cons_succ] at hs
    refine R.ev rfl (E.assign rfl) ?_
    refine R.done ?_
    refine X.keep [(4, _), (6, _), (9, _), (10, _)] ⟨rfl, rfl, rfl, rfl, trivial⟩ ?_
    refine X.blockNormal ?_
    refine X.next ?_
    refine C.seq ?_
    refine C.region ?_
    refine R.ev rfl (E.loadRowC rfl Try.underlying52 rfl Try.sz52 (by first | exact ⟨hs.ldA, by first | rfl | assumption | exact encV_len _ | exact Enc.len _ | exact len_ub (by assumption)⟩ | exact ⟨hs.ldP rfl, by first | rfl | assumption | exact encV_len _ | exact Enc.len _ | exact len_ub (by assumption)⟩ | exact ⟨hs.ldM rfl rfl, by first | rfl | assumption | exact encV_len _ | exact Enc.len _ | exact len_ub (by assumption)⟩ | exact ⟨hs.ldM (by assumption) (by first | rfl | assumption), by first | rfl | assumption | exact encV_len _ | exact Enc.len _ | exact len_ub (by assumption)⟩ | exact ⟨by assumption, by first | rfl | assumption | exact encV_len _ | exact Enc.len _ | exact len_ub (by assumption)⟩ | exact hs.ldp | exact At.partC (by assumption))) ?_
    refine R.ev rfl (E.move rfl) ?_
    refine R.ev rfl (E.move rfl) ?_
    refine R.ev rfl ((E.eql rfl rfl).isT rfl) ?_
    first | refine R.cstoreAll hs rfl rfl Try.sz52 (by first | rfl | assumption | exact encV_len _ | exact Enc.len _ | exact len_ub (by assumption) | simp [*]) (by first | rfl | assumption | exact encV_len _ | exact Enc.len _ | exact len_ub (by assumption) | simp [*]) (by first | assumption | exact OneL.all | exact Enc.one _ | exact ub_all _ | (repeat' (first | refine List.forall_mem_cons.2 ⟨?_, ?_⟩ | exact List.forall_mem_nil _ | rfl | exact OneC.one | exact KRow.oneC' (by assumption)))) ?_ | refine R.cstore hs rfl rfl Try.sz52 (by first | rfl | assumption | exact encV_len _ | exact Enc.len _ | exact len_ub (by assumption) | simp [*]) (by simp [*]) (by first | assumption | exact OneL.all | exact Enc.one _ | exact ub_all _ | (repeat' (first | refine List.forall_mem_cons.2 ⟨?_, ?_⟩ | exact List.forall_mem_nil _ | rfl | exact OneC.one | exact KRow.oneC' (by assumption)))) ?_
    intro w30_4 hs
    try simp only [List.set_cons_zero, List.set_cons_succ] at hs
    refine R.ev rfl (E.assign rfl) ?_
    refine R.done ?_
    refine X.keep [(6, _), (7, _)] ⟨rfl, rfl, trivial⟩ ?_
    refine X.next ?_
    refine C.ret ?_
    refine X.resCT rfl rfl Try.underlying52 rfl Try.sz52 (by first | exact ⟨hs.ldA, by first | rfl | assumption | exact encV_len _ | exact Enc.len _ | exact len_ub (by assumption)⟩ | exact ⟨hs.ldP rfl, by first | rfl | assumption | exact encV_len _ | exact Enc.len _ | exact len_ub (by assumption)⟩ | exact ⟨by assumption, by first | rfl | assumption | exact encV_len _ | exact Enc.len _ | exact len_ub (by assumption)⟩) rfl ?_
    first
      | exact ⟨K2, v2, F1, rfl, hk2, hr2, hw1, hs.to⟩
      | (rw [hop]; exact ⟨K, v, F, rfl, KLe.refl K, hr, hw, hs.to⟩)
  · refine C.seq ?_
    refine C.region ?_
    refine R.ev rfl (E.eql rfl rfl) ?_
    refine R.ev rfl (E.assign rfl) ?_
    refine R.done ?_
    refine X.keep [(0, _), (4, _), (5, _), (6, _), (8, _), (9, _), (10, _), (25, _), (38, _)] ⟨rfl, rfl, rfl, rfl, rfl, rfl, rfl, rfl, rfl, trivial⟩ ?_
    refine X.next ?_
    refine C.cdec rfl (fun h38 => ?_) (fun h38 => ?_)
    · have hop : opS s o = ansS s o.id := by unfold opS; rw [if_neg h26, if_pos h38]
      refine C.seq ?_
      refine C.region ?_
      refine R.ev rfl (E.move rfl) ?_
      refine R.ev rfl (E.loadRowC rfl Try.underlying30 rfl Try.sz30 (by first | exact ⟨hs.ldA, by first | rfl | assumption | exact encV_len _ | exact Enc.len _ | exact len_ub (by assumption)⟩ | exact ⟨hs.ldP rfl, by first | rfl | assumption | exact encV_len _ | exact Enc.len _ | exact len_ub (by assumption)⟩ | exact ⟨hs.ldM rfl rfl, by first | rfl | assumption | exact encV_len _ | exact Enc.len _ | exact len_ub (by assumption)⟩ | exact ⟨hs.ldM (by assumption) (by first | rfl | assumption), by first | rfl | assumption | exact encV_len _ | exact Enc.len _ | exact len_ub (by assumption)⟩ | exact ⟨by assumption, by first | rfl | assumption | exact encV_len _ | exact Enc.len _ | exact len_ub (by assumption)⟩ | exact hs.ldp | exact At.partC (by assumption))) ?_
      refine R.call ⟨_, _, Try.func27, rfl, by kernel_rfl⟩ rfl rfl (answered_any o.id (hs.front (F := F)) (by omega)) ?_
      rintro _ w5 ⟨rfl, F1, hw1, hs1⟩
      have hs := hs.back (F := F) hs1
      refine R.ev rfl (E.assign rfl) ?_
      refine R.done ?_
      refine X.keep [(4, _), (5, _), (6, _), (9, _)] ⟨rfl, rfl, rfl, rfl, trivial⟩ ?_
      refine X.next ?_
      refine C.region ?_
      refine R.ev rfl (E.loadRowC rfl Try.underlying52 rfl Try.sz52 (by first | exact ⟨hs.ldA, by first | rfl | assumption | exact encV_len _ | exact Enc.len _ | exact len_ub (by assumption)⟩ | exact ⟨hs.ldP rfl, by first | rfl | assumption | exact encV_len _ | exact Enc.len _ | exact len_ub (by assumption)⟩ | exact ⟨hs.ldM rfl rfl, by first | rfl | assumption | exact encV_len _ | exact Enc.len _ | exact len_ub (by assumption)⟩ | exact ⟨hs.ldM (by assumption) (by first | rfl | assumption), by first | rfl | assumption | exact encV_len _ | exact Enc.len _ | exact len_ub (by assumption)⟩ | exact ⟨by assumption, by first | rfl | assumption | exact encV_len _ | exact Enc.len _ | exact len_ub (by assumption)⟩ | exact hs.ldp | exact At.partC (by assumption))) ?_
      first | refine R.ev rfl (E.fieldAddr0 1 rfl Try.underlying33 rfl Try.sz29 rfl) ?_ | refine R.ev rfl (E.fieldAddrN 1 rfl Try.underlying33 rfl Try.sz29 rfl) ?_
      refine R.ev rfl (E.loadRowC rfl Try.underlying29 rfl Try.sz29 (by first | exact ⟨hs.ldA, by first | rfl | assumption | exact encV_len _ | exact Enc.len _ | exact len_ub (by assumption)⟩ | exact ⟨hs.ldP rfl, by first | rfl | assumption | exact encV_len _ | exact Enc.len _ | exact len_ub (by assumption)⟩ | exact ⟨hs.ldM rfl rfl, by first | rfl | assumption | exact encV_len _ | exact Enc.len _ | exact len_ub (by assumption)⟩ | exact ⟨hs.ldM (by assumption) (by first | rfl | assumption), by first | rfl | assumption | exact encV_len _ | exact Enc.len _ | exact len_ub (by assumption)⟩ | exact ⟨by assumption, by first | rfl | assumption | exact encV_len _ | exact Enc.len _ | exact len_ub (by assumption)⟩ | exact hs.ldp | exact At.partC (by assumption))) ?_
      refine R.call ⟨_, _, Try.func66, rfl, by kernel_rfl⟩ rfl rfl (rchange_any (s := vw s) (v := v) 1 o.id 0 hs (by omega) hI.wt htr (.inr (.inl rfl))) ?_
      rintro _ w6 ⟨K2, v2, rfl, hk2, hr2, hs⟩
      have o2 : OneC v2 := ⟨KRow.oneC' hr2⟩
      rw [← ansS_vw hI, ← hop] at hr2
      rw [ansE_vw, ← ansS_vw hI, ← hop]
      rw [← hop] at hw1
      refine R.ev rfl (E.move rfl) ?_
      refine R.ev rfl (E.extract rfl rfl) ?_
      refine R.ev rfl (E.extract rfl rfl) ?_
      first | refine R.cstoreAll hs rfl rfl Try.sz52 (by first | rfl | assumption | exact encV_len _ | exact Enc.len _ | exact len_ub (by assumption) | simp [*]) (by first | rfl | assumption | exact encV_len _ | exact Enc.len _ | exact len_ub (by assumption) | simp [*]) (by first | assumption | exact OneL.all | exact Enc.one _ | exact ub_all _ | (repeat' (first | refine List.forall_mem_cons.2 ⟨?_, ?_⟩ | exact List.forall_mem_nil _ | rfl | exact OneC.one | exact KRow.oneC' (by assumption)))) ?_ | refine R.cstore hs rfl rfl Try.sz52 (by first | rfl | assumption | exact encV_len _ | exact Enc.len _ | exact len_ub (by assumption) | simp [*]) (by simp [*]) (by first | assumption | exact OneL.all | exact Enc.one _ | exact ub_all _ | (repeat' (first | refine List.forall_mem_cons.2 ⟨?_, ?_⟩ | exact List.forall_mem_nil _ | rfl | exact OneC.one | exact KRow.oneC' (by assumption)))) ?_
      intro w9_7 hs
      try simp only [List.set_cons_zero, List.set_cons_succ] at hs
      refine R.ev rfl (E.assign rfl) ?_
      refine R.done ?_
      refine X.keep [(4, _), (6, _), (9, _), (10, _)] ⟨rfl, rfl, rfl, rfl, trivial⟩ ?_
      refine X.blockNormal ?_
      refine X.next ?_
      refine C.seq ?_
      refine C.region ?_
      refine R.ev rfl (E.loadRowC rfl Try.underlying52 rfl Try.sz52 (by first | exact ⟨hs.ldA, by first | rfl | assumption | exact encV_len _ | exact Enc.len _ | exact len_ub (by assumption)⟩ | exact ⟨hs.ldP rfl, by first | rfl | assumption | exact encV_len _ | exact Enc.len _ | exact len_ub (by assumption)⟩ | exact ⟨hs.ldM rfl rfl, by first | rfl | assumption | exact encV_len _ | exact Enc.len _ | exact len_ub (by assumption)⟩ | exact ⟨hs.ldM (by assumption) (by first | rfl | assumption), by first | rfl | assumption | exact encV_len _ | exact Enc.len _ | exact len_ub (by assumption)⟩ | exact ⟨by assumption, by first | rfl | assumption | exact encV_len _ | exact Enc.len _ | exact len_ub (by assumption)⟩ | exact hs.ldp | exact At.partC (by assumption))) ?_
      refine R.ev rfl (E.move rfl) ?_
      refine R.ev rfl (E.move rfl) ?_
      refine R.ev rfl ((E.eql rfl rfl).isT rfl) ?_
      first | refine R.cstoreAll hs rfl rfl Try.sz52 (by first | rfl | assumption | exact encV_len _ | exact Enc.len _ | exact len_ub (by assumption) | simp [*]) (by first | rfl | assumption | exact encV_len _ | exact Enc.len _ | exact len_ub (by assumption) | simp [*]) (by first | assumption | exact OneL.all | exact Enc.one _ | exact ub_all _ | (repeat' (first | refine List.forall_mem_cons.2 ⟨?_, ?_⟩ | exact List.forall_mem_nil _ | rfl | exact OneC.one | exact KRow.oneC' (by assumption)))) ?_ | refine R.cstore hs rfl rfl Try.sz52 (by first | rfl | assumption | exact encV_len _ | exact Enc.len _ | exact len_ub (by assumption) | simp [*]) (by simp [*]) (by first | assumption | exact OneL.all | exact Enc.one _ | exact ub_all _ | (repeat' (first | refine List.forall_mem_cons.2 ⟨?_, ?_⟩ | exact List.forall_mem_nil _ | rfl | exact OneC.one | exact KRow.oneC' (by assumption)))) ?_
      intro w30_4 hs
      try simp only [List.set_cons_zero, List.set_cons_succ] at hs
      refine R.ev rfl (E.assign rfl) ?_
      refine R.done ?_
      refine X.keep [(6, _), (7, _)] ⟨rfl, rfl, trivial⟩ ?_
      refine X.next ?_
      refine C.ret ?_
      refine X.resCT rfl rfl Try.underlying52 rfl Try.sz52 (by first | exact ⟨hs.ldA, by first | rfl | assumption | exact encV_len _ | exact Enc.len _ | exact len_ub (by assumption)⟩ | exact ⟨hs.ldP rfl, by first | rfl | assumption | exact encV_len _ | exact Enc.len _ | exact len_ub (by assumption)⟩ | exact ⟨by assumption, by first | rfl | assumption | exact encV_len _ | exact Enc.len _ | exact len_ub (by assumption)⟩) rfl ?_
      first
        | exact ⟨K2, v2, F1, rfl, hk2, hr2, hw1, hs.to⟩
        | (rw [hop]; exact ⟨K, v, F, rfl, KLe.refl K, hr, hw, hs.to⟩)
    · refine C.seq ?_
      refine C.region ?_
      refine R.ev rfl (E.eql rfl rfl) ?_
      refine R.ev rfl (E.assign rfl) ?_
      refine R.done ?_
      refine X.keep [(0, _), (4, _), (5, _), (6, _), (8, _), (9, _), (10, _), (25, _), (50, _)] ⟨rfl, rfl, rfl, rfl, rfl, rfl, rfl, rfl, rfl, trivial⟩ ?_
      refine X.next ?_
      refine C.cdec rfl (fun h50 => ?_) (fun h50 => ?_)
      · have hop : opS s o = latS s o.id o.now := by unfold opS; rw [if_neg h26, if_neg h38, if_pos h50]
        refine C.seq ?_
        refine C.region ?_
        refine R.ev rfl (E.move rfl) ?_
        refine R.ev rfl (E.loadRowC rfl Try.underlying30 rfl Try.sz30 (by first | exact ⟨hs.ldA, by first | rfl | assumption | exact encV_len _ | exact Enc.len _ | exact len_ub (by assumption)⟩ | exact ⟨hs.ldP rfl, by first | rfl | assumption | exact encV_len _ | exact Enc.len _ | exact len_ub (by assumption)⟩ | exact ⟨hs.ldM rfl rfl, by first | rfl | assumption | exact encV_len _ | exact Enc.len _ | exact len_ub (by assumption)⟩ | exact ⟨hs.ldM (by assumption) (by first | rfl | assumption), by first | rfl | assumption | exact encV_len _ | exact Enc.len _ | exact len_ub (by assumption)⟩ | exact ⟨by assumption, by first | rfl | assumption | exact encV_len _ | exact Enc.len _ | exact len_ub (by assumption)⟩ | exact hs.ldp | exact At.partC (by assumption))) ?_
        first | refine R.ev rfl (E.fieldAddr0 33 rfl Try.underlying33 rfl Try.sz3 rfl) ?_ | refine R.ev rfl (E.fieldAddrN 33 rfl Try.underlying33 rfl Try.sz3 rfl) ?_
        refine R.ev rfl (E.load1 rfl Try.underlying3 rfl (by first | exact hs.ldc | exact hs.ld rfl | exact hs.ld (by assumption) | exact by assumption | exact At.cellC (by assumption))) ?_
        refine R.call ⟨_, _, Try.func22, rfl, by kernel_rfl⟩ rfl rfl (later_any o.id o.now (hs.front (F := F)) (by omega) (by have := hI.wt; simp [isWt]; omega) htr2) ?_
        rintro _ w5 ⟨rfl, F1, hw1, hs1⟩
        have hs := hs.back (F := F) hs1
        refine R.ev rfl (E.assign rfl) ?_
        refine R.done ?_
        refine X.keep [(4, _), (5, _), (6, _), (9, _)] ⟨rfl, rfl, rfl, rfl, trivial⟩ ?_
        refine X.next ?_
        refine C.region ?_
        refine R.ev rfl (E.loadRowC rfl Try.underlying52 rfl Try.sz52 (by first | exact ⟨hs.ldA, by first | rfl | assumption | exact encV_len _ | exact Enc.len _ | exact len_ub (by assumption)⟩ | exact ⟨hs.ldP rfl, by first | rfl | assumption | exact encV_len _ | exact Enc.len _ | exact len_ub (by assumption)⟩ | exact ⟨hs.ldM rfl rfl, by first | rfl | assumption | exact encV_len _ | exact Enc.len _ | exact len_ub (by assumption)⟩ | exact ⟨hs.ldM (by assumption) (by first | rfl | assumption), by first | rfl | assumption | exact encV_len _ | exact Enc.len _ | exact len_ub (by assumption)⟩ | exact ⟨by assumption, by first | rfl | assumption | exact encV_len _ | exact Enc.len _ | exact len_ub (by assumption)⟩ | exact hs.ldp | exact At.partC (by assumption))) ?_
        first | refine R.ev rfl (E.fieldAddr0 1 rfl Try.underlying33 rfl Try.sz29 rfl) ?_ | refine R.ev rfl (E.fieldAddrN 1 rfl Try.underlying33 rfl Try.sz29 rfl) ?_
        refine R.ev rfl (E.loadRowC rfl Try.underlying29 rfl Try.sz29 (by first | exact ⟨hs.ldA, by first | rfl | assumption | exact encV_len _ | exact Enc.len _ | exact len_ub (by assumption)⟩ | exact ⟨hs.ldP rfl, by first | rfl | assumption | exact encV_len _ | exact Enc.len _ | exact len_ub (by assumption)⟩ | exact ⟨hs.ldM rfl rfl, by first | rfl | assumption | exact encV_len _ | exact Enc.len _ | exact len_ub (by assumption)⟩ | exact ⟨hs.ldM (by assumption) (by first | rfl | assumption), by first | rfl | assumption | exact encV_len _ | exact Enc.len _ | exact len_ub (by assumption)⟩ | exact ⟨by assumption, by first | rfl | assumption | exact encV_len _ | exact Enc.len _ | exact len_ub (by assumption)⟩ | exact hs.ldp | exact At.partC (by assumption))) ?_
        first | refine R.ev rfl (E.fieldAddr0 33 rfl Try.underlying33 rfl Try.sz3 rfl) ?_ | refine R.ev rfl (E.fieldAddrN 33 rfl Try.underlying33 rfl Try.sz3 rfl) ?_
        refine R.ev rfl (E.load1 rfl Try.underlying3 rfl (by first | exact hs.ldc | exact hs.ld rfl | exact hs.ld (by assumption) | exact by assumption | exact At.cellC (by assumption))) ?_
        refine R.call ⟨_, _, Try.func66, rfl, by kernel_rfl⟩ rfl rfl (rchange_any (s := vw s) (v := v) 2 o.id o.now hs (by omega) hI.wt htr (.inr (.inr rfl))) ?_
        rintro _ w6 ⟨K2, v2, rfl, hk2, hr2, hs⟩
        have o2 : OneC v2 := ⟨KRow.oneC' hr2⟩
        rw [← latS_vw hI, ← hop] at hr2
        rw [latE_vw, ← latS_vw hI, ← hop]
        rw [← hop] at hw1
        refine R.ev rfl (E.move rfl) ?_
        refine R.ev rfl (E.extract rfl rfl) ?_
        refine R.ev rfl (E.extract rfl rfl) ?_
        first | refine R.cstoreAll hs rfl rfl Try.sz52 (by first | rfl | assumption | exact encV_len _ | exact Enc.len _ | exact len_ub (by assumption) | simp [*]) (by first | rfl | assumption | exact encV_len _ | exact Enc.len _ | exact len_ub (by assumption) | simp [*]) (by first | assumption | exact OneL.all | exact Enc.one _ | exact ub_all _ | (repeat' (first | refine List.forall_mem_cons.2 ⟨?_, ?_⟩ | exact List.forall_mem_nil _ | rfl | exact OneC.one | exact KRow.oneC' (by assumption)))) ?_ | refine R.cstore hs rfl rfl Try.sz52 (by first | rfl | assumption | exact encV_len _ | exact Enc.len _ | exact len_ub (by assumption) | simp [*]) (by simp [*]) (by first | assumption | exact OneL.all | exact Enc.one _ | exact ub_all _ | (repeat' (first | refine List.forall_mem_cons.2 ⟨?_, ?_⟩ | exact List.forall_mem_nil _ | rfl | exact OneC.one | exact KRow.oneC' (by assumption)))) ?_
        intro w12_9 hs
        try simp only [List.set_cons_zero, List.set_cons_succ] at hs
        refine R.ev rfl (E.assign rfl) ?_
        refine R.done ?_
        refine X.keep [(4, _), (6, _), (9, _), (10, _)] ⟨rfl, rfl, rfl, rfl, trivial⟩ ?_
        refine X.blockNormal ?_
        refine X.next ?_
        refine C.seq ?_
        refine C.region ?_
        refine R.ev rfl (E.loadRowC rfl Try.underlying52 rfl Try.sz52 (by first | exact ⟨hs.ldA, by first | rfl | assumption | exact encV_len _ | exact Enc.len _ | exact len_ub (by assumption)⟩ | exact ⟨hs.ldP rfl, by first | rfl | assumption | exact encV_len _ | exact Enc.len _ | exact len_ub (by assumption)⟩ | exact ⟨hs.ldM rfl rfl, by first | rfl | assumption | exact encV_len _ | exact Enc.len _ | exact len_ub (by assumption)⟩ | exact ⟨hs.ldM (by assumption) (by first | rfl | assumption), by first | rfl | assumption | exact encV_len _ | exact Enc.len _ | exact len_ub (by assumption)⟩ | exact ⟨by assumption, by first | rfl | assumption | exact encV_len _ | exact Enc.len _ | exact len_ub (by assumption)⟩ | exact hs.ldp | exact At.partC (by assumption))) ?_
        refine R.ev rfl (E.move rfl) ?_
        refine R.ev rfl (E.move rfl) ?_
        refine R.ev rfl ((E.eql rfl rfl).isT rfl) ?_
        first | refine R.cstoreAll hs rfl rfl Try.sz52 (by first | rfl | assumption | exact encV_len _ | exact Enc.len _ | exact len_ub (by assumption) | simp [*]) (by first | rfl | assumption | exact encV_len _ | exact Enc.len _ | exact len_ub (by assumption) | simp [*]) (by first | assumption | exact OneL.all | exact Enc.one _ | exact ub_all _ | (repeat' (first | refine List.forall_mem_cons.2 ⟨?_, ?_⟩ | exact List.forall_mem_nil _ | rfl | exact OneC.one | exact KRow.oneC' (by assumption)))) ?_ | refine R.cstore hs rfl rfl Try.sz52 (by first | rfl | assumption | exact encV_len _ | exact Enc.len _ | exact len_ub (by assumption) | simp [*]) (by simp [*]) (by first | assumption | exact OneL.all | exact Enc.one _ | exact ub_all _ | (repeat' (first | refine List.forall_mem_cons.2 ⟨?_, ?_⟩ | exact List.forall_mem_nil _ | rfl | exact OneC.one | exact KRow.oneC' (by assumption)))) ?_
        intro w30_4 hs
        try simp only [List.set_cons_zero, List.set_cons_succ] at hs
        refine R.ev rfl (E.assign rfl) ?_
        refine R.done ?_
        refine X.keep [(6, _), (7, _)] ⟨rfl, rfl, trivial⟩ ?_
        refine X.next ?_
        refine C.ret ?_
        refine X.resCT rfl rfl Try.underlying52 rfl Try.sz52 (by first | exact ⟨hs.ldA, by first | rfl | assumption | exact encV_len _ | exact Enc.len _ | exact len_ub (by assumption)⟩ | exact ⟨hs.ldP rfl, by first | rfl | assumption | exact encV_len _ | exact Enc.len _ | exact len_ub (by assumption)⟩ | exact ⟨by assumption, by first | rfl | assumption | exact encV_len _ | exact Enc.len _ | exact len_ub (by assumption)⟩) rfl ?_
        first
          | exact ⟨K2, v2, F1, rfl, hk2, hr2, hw1, hs.to⟩
          | (rw [hop]; exact ⟨K, v, F, rfl, KLe.refl K, hr, hw, hs.to⟩)
      · refine C.seq ?_
        refine C.region ?_
        refine R.ev rfl (E.eql rfl rfl) ?_
        refine R.ev rfl (E.assign rfl) ?_
        refine R.done ?_
        refine X.keep [(0, _), (4, _), (5, _), (6, _), (8, _), (9, _), (10, _), (25, _), (66, _)] ⟨rfl, rfl, rfl, rfl, rfl, rfl, rfl, rfl, rfl, trivial⟩ ?_
        refine X.next ?_
        refine C.cdec rfl (fun h66 => ?_) (fun h66 => ?_)
        · have hop : opS s o = addS s o.id o.now := by unfold opS; rw [if_neg h26, if_neg h38, if_neg h50, if_pos h66]
          refine C.seq ?_
          refine C.region ?_
          refine R.ev rfl (E.move rfl) ?_
          refine R.ev rfl (E.loadRowC rfl Try.underlying30 rfl Try.sz30 (by first | exact ⟨hs.ldA, by first | rfl | assumption | exact encV_len _ | exact Enc.len _ | exact len_ub (by assumption)⟩ | exact ⟨hs.ldP rfl, by first | rfl | assumption | exact encV_len _ | exact Enc.len _ | exact len_ub (by assumption)⟩ | exact ⟨hs.ldM rfl rfl, by first | rfl | assumption | exact encV_len _ | exact Enc.len _ | exact len_ub (by assumption)⟩ | exact ⟨hs.ldM (by assumption) (by first | rfl | assumption), by first | rfl | assumption | exact encV_len _ | exact Enc.len _ | exact len_ub (by assumption)⟩ | exact ⟨by assumption, by first | rfl | assumption | exact encV_len _ | exact Enc.len _ | exact len_ub (by assumption)⟩ | exact hs.ldp | exact At.partC (by assumption))) ?_
          first | refine R.ev rfl (E.fieldAddr0 33 rfl Try.underlying33 rfl Try.sz3 rfl) ?_ | refine R.ev rfl (E.fieldAddrN 33 rfl Try.underlying33 rfl Try.sz3 rfl) ?_
          refine R.ev rfl (E.load1 rfl Try.underlying3 rfl (by first | exact hs.ldc | exact hs.ld rfl | exact hs.ld (by assumption) | exact by assumption | exact At.cellC (by assumption))) ?_
          refine R.call ⟨_, _, Try.func15, rfl, by kernel_rfl⟩ rfl rfl (add_any o.id o.now (hs.front (F := F)) (by omega)) ?_
          rintro _ w5 ⟨rfl, F1, hw1, hs1⟩
          have hs := hs.back (F := F) hs1
          refine R.ev rfl (E.assign rfl) ?_
          refine R.done ?_
          refine X.keep [(4, _), (5, _), (6, _), (9, _)] ⟨rfl, rfl, rfl, rfl, trivial⟩ ?_
          refine X.next ?_
          refine C.region ?_
          refine R.ev rfl (E.loadRowC rfl Try.underlying52 rfl Try.sz52 (by first | exact ⟨hs.ldA, by first | rfl | assumption | exact encV_len _ | exact Enc.len _ | exact len_ub (by assumption)⟩ | exact ⟨hs.ldP rfl, by first | rfl | assumption | exact encV_len _ | exact Enc.len _ | exact len_ub (by assumption)⟩ | exact ⟨hs.ldM rfl rfl, by first | rfl | assumption | exact encV_len _ | exact Enc.len _ | exact len_ub (by assumption)⟩ | exact ⟨hs.ldM (by assumption) (by first | rfl | assumption), by first | rfl | assumption | exact encV_len _ | exact Enc.len _ | exact len_ub (by assumption)⟩ | exact ⟨by assumption, by first | rfl | assumption | exact encV_len _ | exact Enc.len _ | exact len_ub (by assumption)⟩ | exact hs.ldp | exact At.partC (by assumption))) ?_
          first | refine R.ev rfl (E.fieldAddr0 1 rfl Try.underlying33 rfl Try.sz29 rfl) ?_ | refine R.ev rfl (E.fieldAddrN 1 rfl Try.underlying33 rfl Try.sz29 rfl) ?_
          refine R.ev rfl (E.loadRowC rfl Try.underlying29 rfl Try.sz29 (by first | exact ⟨hs.ldA, by first | rfl | assumption | exact encV_len _ | exact Enc.len _ | exact len_ub (by assumption)⟩ | exact ⟨hs.ldP rfl, by first | rfl | assumption | exact encV_len _ | exact Enc.len _ | exact len_ub (by assumption)⟩ | exact ⟨hs.ldM rfl rfl, by first | rfl | assumption | exact encV_len _ | exact Enc.len _ | exact len_ub (by assumption)⟩ | exact ⟨hs.ldM (by assumption) (by first | rfl | assumption), by first | rfl | assumption | exact encV_len _ | exact Enc.len _ | exact len_ub (by assumption)⟩ | exact ⟨by assumption, by first | rfl | assumption | exact encV_len _ | exact Enc.len _ | exact len_ub (by assumption)⟩ | exact hs.ldp | exact At.partC (by assumption))) ?_
          first | refine R.ev rfl (E.fieldAddr0 33 rfl Try.underlying33 rfl Try.sz3 rfl) ?_ | refine R.ev rfl (E.fieldAddrN 33 rfl Try.underlying33 rfl Try.sz3 rfl) ?_
          refine R.ev rfl (E.load1 rfl Try.underlying3 rfl (by first | exact hs.ldc | exact hs.ld rfl | exact hs.ld (by assumption) | exact by assumption | exact At.cellC (by assumption))) ?_
          refine R.call ⟨_, _, Try.func67, rfl, by kernel_rfl⟩ rfl rfl (radd_any (s := vw s) (v := v) o.id o.now hs (by omega)) ?_
          rintro _ w6 ⟨K2, v2, rfl, hk2, hr2, hs⟩
          have o2 : OneC v2 := ⟨KRow.oneC' hr2⟩
          rw [← addS_vw hI, ← hop] at hr2
          rw [addE_vw, ← addS_vw hI, ← hop]
          rw [← hop] at hw1
          refine R.ev rfl (E.move rfl) ?_
          refine R.ev rfl (E.extract rfl rfl) ?_
          refine R.ev rfl (E.extract rfl rfl) ?_
          first | refine R.cstoreAll hs rfl rfl Try.sz52 (by first | rfl | assumption | exact encV_len _ | exact Enc.len _ | exact len_ub (by assumption) | simp [*]) (by first | rfl | assumption | exact encV_len _ | exact Enc.len _ | exact len_ub (by assumption) | simp [*]) (by first | assumption | exact OneL.all | exact Enc.one _ | exact ub_all _ | (repeat' (first | refine List.forall_mem_cons.2 ⟨?_, ?_⟩ | exact List.forall_mem_nil _ | rfl | exact OneC.one | exact KRow.oneC' (by assumption)))) ?_ | refine R.cstore hs rfl rfl Try.sz52 (by first | rfl | assumption | exact encV_len _ | exact Enc.len _ | exact len_ub (by assumption) | simp [*]) (by simp [*]) (by first | assumption | exact OneL.all | exact Enc.one _ | exact ub_all _ | (repeat' (first | refine List.forall_mem_cons.2 ⟨?_, ?_⟩ | exact List.forall_mem_nil _ | rfl | exact OneC.one | exact KRow.oneC' (by assumption)))) ?_
          intro w15_9 hs
          try simp only [List.set_cons_zero, List.set_cons_succ] at hs
          refine R.ev rfl (E.assign rfl) ?_
          refine R.done ?_
          refine X.keep [(4, _), (6, _), (9, _), (10, _)] ⟨rfl, rfl, rfl, rfl, trivial⟩ ?_
          refine X.blockNormal ?_
          refine X.next ?_
          refine C.seq ?_
          refine C.region ?_
          refine R.ev rfl (E.loadRowC rfl Try.underlying52 rfl Try.sz52 (by first | exact ⟨hs.ldA, by first | rfl | assumption | exact encV_len _ | exact Enc.len _ | exact len_ub (by assumption)⟩ | exact ⟨hs.ldP rfl, by first | rfl | assumption | exact encV_len _ | exact Enc.len _ | exact len_ub (by assumption)⟩ | exact ⟨hs.ldM rfl rfl, by first | rfl | assumption | exact encV_len _ | exact Enc.len _ | exact len_ub (by assumption)⟩ | exact ⟨hs.ldM (by assumption) (by first | rfl | assumption), by first | rfl | assumption | exact encV_len _ | exact Enc.len _ | exact len_ub (by assumption)⟩ | exact ⟨by assumption, by first | rfl | assumption | exact encV_len _ | exact Enc.len _ | exact len_ub (by assumption)⟩ | exact hs.ldp | exact At.partC (by assumption))) ?_
          refine R.ev rfl (E.move rfl) ?_
          refine R.ev rfl (E.move rfl) ?_
          refine R.ev rfl ((E.eql rfl rfl).isT rfl) ?_
          first | refine R.cstoreAll hs rfl rfl Try.sz52 (by first | rfl | assumption | exact encV_len _ | exact Enc.len _ | exact len_ub (by assumption) | simp [*]) (by first | rfl | assumption | exact encV_len _ | exact Enc.len _ | exact len_ub (by assumption) | simp [*]) (by first | assumption | exact OneL.all | exact Enc.one _ | exact ub_all _ | (repeat' (first | refine List.forall_mem_cons.2 ⟨?_, ?_⟩ | exact List.forall_mem_nil _ | rfl | exact OneC.one | exact KRow.oneC' (by assumption)))) ?_ | refine R.cstore hs rfl rfl Try.sz52 (by first | rfl | assumption | exact encV_len _ | exact Enc.len _ | exact len_ub (by assumption) | simp [*]) (by simp [*]) (by first | assumption | exact OneL.all | exact Enc.one _ | exact ub_all _ | (repeat' (first | refine List.forall_mem_cons.2 ⟨?_, ?_⟩ | exact List.forall_mem_nil _ | rfl | exact OneC.one | exact KRow.oneC' (by assumption)))) ?_
          intro w30_4 hs
          try simp only [List.set_cons_zero, List.set_cons_succ] at hs
          refine R.ev rfl (E.assign rfl) ?_
          refine R.done ?_
          refine X.keep [(6, _), (7, _)] ⟨rfl, rfl, trivial⟩ ?_
          refine X.next ?_
          refine C.ret ?_
          refine X.resCT rfl rfl Try.underlying52 rfl Try.sz52 (by first | exact ⟨hs.ldA, by first | rfl | assumption | exact encV_len _ | exact Enc.len _ | exact len_ub (by assumption)⟩ | exact ⟨hs.ldP rfl, by first | rfl | assumption | exact encV_len _ | exact Enc.len _ | exact len_ub (by assumption)⟩ | exact ⟨by assumption, by first | rfl | assumption | exact encV_len _ | exact Enc.len _ | exact len_ub (by assumption)⟩) rfl ?_
          first
            | exact ⟨K2, v2, F1, rfl, hk2, hr2, hw1, hs.to⟩
            | (rw [hop]; exact ⟨K, v, F, rfl, KLe.refl K, hr, hw, hs.to⟩)
        · refine C.seq ?_
          refine C.region ?_
          refine R.ev rfl (E.eql rfl rfl) ?_
          refine R.ev rfl (E.assign rfl) ?_
          refine R.done ?_
          refine X.keep [(0, _), (4, _), (5, _), (6, _), (8, _), (9, _), (10, _), (25, _), (82, _)] ⟨rfl, rfl, rfl, rfl, rfl, rfl, rfl, rfl, rfl, trivial⟩ ?_
          refine X.next ?_
          refine C.cdec rfl (fun h82 => ?_) (fun h82 => ?_)
          · have hop : opS s o = remS s o.id := by unfold opS; rw [if_neg h26, if_neg h38, if_neg h50, if_neg h66, if_pos h82]
            refine C.seq ?_
            refine C.region ?_
            refine R.ev rfl (E.move rfl) ?_
            refine R.ev rfl (E.loadRowC rfl Try.underlying30 rfl Try.sz30 (by first | exact ⟨hs.ldA, by first | rfl | assumption | exact encV_len _ | exact Enc.len _ | exact len_ub (by assumption)⟩ | exact ⟨hs.ldP rfl, by first | rfl | assumption | exact encV_len _ | exact Enc.len _ | exact len_ub (by assumption)⟩ | exact ⟨hs.ldM rfl rfl, by first | rfl | assumption | exact encV_len _ | exact Enc.len _ | exact len_ub (by assumption)⟩ | exact ⟨hs.ldM (by assumption) (by first | rfl | assumption), by first | rfl | assumption | exact encV_len _ | exact Enc.len _ | exact len_ub (by assumption)⟩ | exact ⟨by assumption, by first | rfl | assumption | exact encV_len _ | exact Enc.len _ | exact len_ub (by assumption)⟩ | exact hs.ldp | exact At.partC (by assumption))) ?_
            refine R.call ⟨_, _, Try.func19, rfl, by kernel_rfl⟩ rfl rfl (remove_any o.id (hs.front (F := F)) (by omega)) ?_
            rintro _ w5 ⟨rfl, F1, hw1, hs1⟩
            have hs := hs.back (F := F) hs1
            refine R.ev rfl (E.assign rfl) ?_
            refine R.done ?_
            refine X.keep [(4, _), (5, _), (6, _), (11, _)] ⟨rfl, rfl, rfl, rfl, trivial⟩ ?_
            refine X.next ?_
            refine C.seq ?_
            refine C.region ?_
            refine R.ev rfl (E.loadRowC rfl Try.underlying52 rfl Try.sz52 (by first | exact ⟨hs.ldA, by first | rfl | assumption | exact encV_len _ | exact Enc.len _ | exact len_ub (by assumption)⟩ | exact ⟨hs.ldP rfl, by first | rfl | assumption | exact encV_len _ | exact Enc.len _ | exact len_ub (by assumption)⟩ | exact ⟨hs.ldM rfl rfl, by first | rfl | assumption | exact encV_len _ | exact Enc.len _ | exact len_ub (by assumption)⟩ | exact ⟨hs.ldM (by assumption) (by first | rfl | assumption), by first | rfl | assumption | exact encV_len _ | exact Enc.len _ | exact len_ub (by assumption)⟩ | exact ⟨by assumption, by first | rfl | assumption | exact encV_len _ | exact Enc.len _ | exact len_ub (by assumption)⟩ | exact hs.ldp | exact At.partC (by assumption))) ?_
            first | refine R.ev rfl (E.fieldAddr0 1 rfl Try.underlying33 rfl Try.sz29 rfl) ?_ | refine R.ev rfl (E.fieldAddrN 1 rfl Try.underlying33 rfl Try.sz29 rfl) ?_
            refine R.ev rfl (E.loadRowC rfl Try.underlying29 rfl Try.sz29 (by first | exact ⟨hs.ldA, by first | rfl | assumption | exact encV_len _ | exact Enc.len _ | exact len_ub (by assumption)⟩ | exact ⟨hs.ldP rfl, by first | rfl | assumption | exact encV_len _ | exact Enc.len _ | exact len_ub (by assumption)⟩ | exact ⟨hs.ldM rfl rfl, by first | rfl | assumption | exact encV_len _ | exact Enc.len _ | exact len_ub (by assumption)⟩ | exact ⟨hs.ldM (by assumption) (by first | rfl | assumption), by first | rfl | assumption | exact encV_len _ | exact Enc.len _ | exact len_ub (by assumption)⟩ | exact ⟨by assumption, by first | rfl | assumption | exact encV_len _ | exact Enc.len _ | exact len_ub (by assumption)⟩ | exact hs.ldp | exact At.partC (by assumption))) ?_
            refine R.call ⟨_, _, Try.func68, rfl, by kernel_rfl⟩ rfl rfl (rrem_any (s := vw s) (v := v) o.id hs (by omega)) ?_
            rintro _ w6 ⟨K2, v2, rfl, hk2, hr2, hs⟩
            have o2 : OneC v2 := ⟨KRow.oneC' hr2⟩
            rw [← remS_vw hI, ← hop] at hr2
            rw [has_vw, ← remS_vw hI, ← hop]
            rw [← hop] at hw1
            refine R.ev rfl (E.move rfl) ?_
            refine R.ev rfl (E.extract rfl rfl) ?_
            refine R.ev rfl (E.extract rfl rfl) ?_
            refine R.sallocA hs Try.zr52 rfl ?_
            intro b12 w12 hs
            first | refine R.cstoreAll hs rfl rfl Try.sz52 (by first | rfl | assumption | exact encV_len _ | exact Enc.len _ | exact len_ub (by assumption) | simp [*]) (by first | rfl | assumption | exact encV_len _ | exact Enc.len _ | exact len_ub (by assumption) | simp [*]) (by first | assumption | exact OneL.all | exact Enc.one _ | exact ub_all _ | (repeat' (first | refine List.forall_mem_cons.2 ⟨?_, ?_⟩ | exact List.forall_mem_nil _ | rfl | exact OneC.one | exact KRow.oneC' (by assumption)))) ?_ | refine R.cstore hs rfl rfl Try.sz52 (by first | rfl | assumption | exact encV_len _ | exact Enc.len _ | exact len_ub (by assumption) | simp [*]) (by simp [*]) (by first | assumption | exact OneL.all | exact Enc.one _ | exact ub_all _ | (repeat' (first | refine List.forall_mem_cons.2 ⟨?_, ?_⟩ | exact List.forall_mem_nil _ | rfl | exact OneC.one | exact KRow.oneC' (by assumption)))) ?_
            intro w18_8 hs
            try simp only [List.set_cons_zero, List.set_cons_succ] at hs
            refine R.ev rfl (E.assign rfl) ?_
            refine R.done ?_
            refine X.keep [(6, _), (11, _), (12, _), (13, _)] ⟨rfl, rfl, rfl, rfl, trivial⟩ ?_
            refine X.next ?_
            refine C.seq ?_
            refine C.region ?_
            refine R.ev rfl (E.loadRowC rfl Try.underlying52 rfl Try.sz52 (by first | exact ⟨hs.ldA, by first | rfl | assumption | exact encV_len _ | exact Enc.len _ | exact len_ub (by assumption)⟩ | exact ⟨hs.ldP rfl, by first | rfl | assumption | exact encV_len _ | exact Enc.len _ | exact len_ub (by assumption)⟩ | exact ⟨hs.ldM rfl rfl, by first | rfl | assumption | exact encV_len _ | exact Enc.len _ | exact len_ub (by assumption)⟩ | exact ⟨hs.ldM (by assumption) (by first | rfl | assumption), by first | rfl | assumption | exact encV_len _ | exact Enc.len _ | exact len_ub (by assumption)⟩ | exact ⟨by assumption, by first | rfl | assumption | exact encV_len _ | exact Enc.len _ | exact len_ub (by assumption)⟩ | exact hs.ldp | exact At.partC (by assumption))) ?_
            refine R.ev rfl (E.move rfl) ?_
            refine R.ev rfl (E.move rfl) ?_
            refine R.ev rfl ((E.eqlB rfl rfl Try.underlying4).isT rfl) ?_
            first | refine R.cstoreAll hs rfl rfl Try.sz52 (by first | rfl | assumption | exact encV_len _ | exact Enc.len _ | exact len_ub (by assumption) | simp [*]) (by first | rfl | assumption | exact encV_len _ | exact Enc.len _ | exact len_ub (by assumption) | simp [*]) (by first | assumption | exact OneL.all | exact Enc.one _ | exact ub_all _ | (repeat' (first | refine List.forall_mem_cons.2 ⟨?_, ?_⟩ | exact List.forall_mem_nil _ | rfl | exact OneC.one | exact KRow.oneC' (by assumption)))) ?_ | refine R.cstore hs rfl rfl Try.sz52 (by first | rfl | assumption | exact encV_len _ | exact Enc.len _ | exact len_ub (by assumption) | simp [*]) (by simp [*]) (by first | assumption | exact OneL.all | exact Enc.one _ | exact ub_all _ | (repeat' (first | refine List.forall_mem_cons.2 ⟨?_, ?_⟩ | exact List.forall_mem_nil _ | rfl | exact OneC.one | exact KRow.oneC' (by assumption)))) ?_
            intro w19_4 hs
            try simp only [List.set_cons_zero, List.set_cons_succ] at hs
            refine R.ev rfl (E.assign rfl) ?_
            refine R.done ?_
            refine X.keep [(6, _), (7, _)] ⟨rfl, rfl, trivial⟩ ?_
            refine X.next ?_
            refine C.ret ?_
            refine X.blockRet ?_
            refine X.thenRet ?_
            refine X.resCT rfl rfl Try.underlying52 rfl Try.sz52 (by first | exact ⟨hs.ldA, by first | rfl | assumption | exact encV_len _ | exact Enc.len _ | exact len_ub (by assumption)⟩ | exact ⟨hs.ldP rfl, by first | rfl | assumption | exact encV_len _ | exact Enc.len _ | exact len_ub (by assumption)⟩ | exact ⟨by assumption, by first | rfl | assumption | exact encV_len _ | exact Enc.len _ | exact len_ub (by assumption)⟩) rfl ?_
            first
              | exact ⟨K2, v2, F1, rfl, hk2, hr2, hw1, hs.to⟩
              | (rw [hop]; exact ⟨K, v, F, rfl, KLe.refl K, hr, hw, hs.to⟩)
          · refine C.seq ?_
            refine C.region ?_
            refine R.ev rfl (E.eql rfl rfl) ?_
            refine R.ev rfl (E.assign rfl) ?_
            refine R.done ?_
            refine X.keep [(0, _), (4, _), (5, _), (6, _), (9, _), (10, _), (25, _), (98, _)] ⟨rfl, rfl, rfl, rfl, rfl, rfl, rfl, rfl, trivial⟩ ?_
            refine X.next ?_
            refine C.cdec rfl (fun h98 => ?_) (fun h98 => ?_)
            · have hop : opS s o = { s with M := [] } := by unfold opS; rw [if_neg h26, if_neg h38, if_neg h50, if_neg h66, if_neg h82, if_pos h98]
              refine C.seq ?_
              refine C.region ?_
              refine R.ev rfl (E.move rfl) ?_
              refine R.call ⟨_, _, Try.func21, rfl, by kernel_rfl⟩ rfl rfl (drop_any (hs.front (F := F))) ?_
              rintro _ w5 ⟨rfl, F1, hw1, hs1⟩
              have hs := hs.back (F := F) hs1
              refine R.ev rfl (E.assign rfl) ?_
              refine R.done ?_
              refine X.keep [(4, _), (6, _), (14, _)] ⟨rfl, rfl, rfl, trivial⟩ ?_
              refine X.next ?_
              refine C.seq ?_
              refine C.region ?_
              refine R.ev rfl (E.loadRowC rfl Try.underlying52 rfl Try.sz52 (by first | exact ⟨hs.ldA, by first | rfl | assumption | exact encV_len _ | exact Enc.len _ | exact len_ub (by assumption)⟩ | exact ⟨hs.ldP rfl, by first | rfl | assumption | exact encV_len _ | exact Enc.len _ | exact len_ub (by assumption)⟩ | exact ⟨hs.ldM rfl rfl, by first | rfl | assumption | exact encV_len _ | exact Enc.len _ | exact len_ub (by assumption)⟩ | exact ⟨hs.ldM (by assumption) (by first | rfl | assumption), by first | rfl | assumption | exact encV_len _ | exact Enc.len _ | exact len_ub (by assumption)⟩ | exact ⟨by assumption, by first | rfl | assumption | exact encV_len _ | exact Enc.len _ | exact len_ub (by assumption)⟩ | exact hs.ldp | exact At.partC (by assumption))) ?_
              refine R.call ⟨_, _, Try.func42, rfl, by kernel_rfl⟩ rfl rfl (rdrop_any (s := vw s) (v := v) hs (by omega)) ?_
              rintro _ w6 ⟨K2, v2, rfl, hk2, hr2, hs⟩
              have o2 : OneC v2 := ⟨KRow.oneC' hr2⟩
              rw [← dropS_vw, ← hop] at hr2
              rw [outs_vw hI, ← dropS_vw, ← hop]
              rw [← hop] at hw1
              refine R.ev rfl (E.move rfl) ?_
              refine R.ev rfl (E.extract rfl rfl) ?_
              refine R.ev rfl (E.extract rfl rfl) ?_
              refine R.sallocA hs Try.zr52 rfl ?_
              intro b15 w15 hs
              first | refine R.cstoreAll hs rfl rfl Try.sz52 (by first | rfl | assumption | exact encV_len _ | exact Enc.len _ | exact len_ub (by assumption) | simp [*]) (by first | rfl | assumption | exact encV_len _ | exact Enc.len _ | exact len_ub (by assumption) | simp [*]) (by first | assumption | exact OneL.all | exact Enc.one _ | exact ub_all _ | (repeat' (first | refine List.forall_mem_cons.2 ⟨?_, ?_⟩ | exact List.forall_mem_nil _ | rfl | exact OneC.one | exact KRow.oneC' (by assumption)))) ?_ | refine R.cstore hs rfl rfl Try.sz52 (by first | rfl | assumption | exact encV_len _ | exact Enc.len _ | exact len_ub (by assumption) | simp [*]) (by simp [*]) (by first | assumption | exact OneL.all | exact Enc.one _ | exact ub_all _ | (repeat' (first | refine List.forall_mem_cons.2 ⟨?_, ?_⟩ | exact List.forall_mem_nil _ | rfl | exact OneC.one | exact KRow.oneC' (by assumption)))) ?_
              intro w22_6 hs
              try simp only [List.set_cons_zero, List.set_cons_succ] at hs
              refine R.ev rfl (E.assign rfl) ?_
              refine R.done ?_
              refine X.keep [(6, _), (14, _), (15, _), (16, _)] ⟨rfl, rfl, rfl, rfl, trivial⟩ ?_
              refine X.next ?_
              refine C.seq ?_
              refine C.region ?_
              refine R.ev rfl (E.loadRowC rfl Try.underlying52 rfl Try.sz52 (by first | exact ⟨hs.ldA, by first | rfl | assumption | exact encV_len _ | exact Enc.len _ | exact len_ub (by assumption)⟩ | exact ⟨hs.ldP rfl, by first | rfl | assumption | exact encV_len _ | exact Enc.len _ | exact len_ub (by assumption)⟩ | exact ⟨hs.ldM rfl rfl, by first | rfl | assumption | exact encV_len _ | exact Enc.len _ | exact len_ub (by assumption)⟩ | exact ⟨hs.ldM (by assumption) (by first | rfl | assumption), by first | rfl | assumption | exact encV_len _ | exact Enc.len _ | exact len_ub (by assumption)⟩ | exact ⟨by assumption, by first | rfl | assumption | exact encV_len _ | exact Enc.len _ | exact len_ub (by assumption)⟩ | exact hs.ldp | exact At.partC (by assumption))) ?_
              refine R.ev rfl (E.move rfl) ?_
              refine R.ev rfl (E.move rfl) ?_
              refine R.ev rfl ((E.eql rfl rfl).isT rfl) ?_
              first | refine R.cstoreAll hs rfl rfl Try.sz52 (by first | rfl | assumption | exact encV_len _ | exact Enc.len _ | exact len_ub (by assumption) | simp [*]) (by first | rfl | assumption | exact encV_len _ | exact Enc.len _ | exact len_ub (by assumption) | simp [*]) (by first | assumption | exact OneL.all | exact Enc.one _ | exact ub_all _ | (repeat' (first | refine List.forall_mem_cons.2 ⟨?_, ?_⟩ | exact List.forall_mem_nil _ | rfl | exact OneC.one | exact KRow.oneC' (by assumption)))) ?_ | refine R.cstore hs rfl rfl Try.sz52 (by first | rfl | assumption | exact encV_len _ | exact Enc.len _ | exact len_ub (by assumption) | simp [*]) (by simp [*]) (by first | assumption | exact OneL.all | exact Enc.one _ | exact ub_all _ | (repeat' (first | refine List.forall_mem_cons.2 ⟨?_, ?_⟩ | exact List.forall_mem_nil _ | rfl | exact OneC.one | exact KRow.oneC' (by assumption)))) ?_
              intro w23_4 hs
              try simp only [List.set_cons_zero, List.set_cons_succ] at hs
              refine R.ev rfl (E.assign rfl) ?_
              refine R.done ?_
              refine X.keep [(6, _), (7, _)] ⟨rfl, rfl, trivial⟩ ?_
              refine X.next ?_
              refine C.ret ?_
              refine X.blockRet ?_
              refine X.thenRet ?_
              refine X.resCT rfl rfl Try.underlying52 rfl Try.sz52 (by first | exact ⟨hs.ldA, by first | rfl | assumption | exact encV_len _ | exact Enc.len _ | exact len_ub (by assumption)⟩ | exact ⟨hs.ldP rfl, by first | rfl | assumption | exact encV_len _ | exact Enc.len _ | exact len_ub (by assumption)⟩ | exact ⟨by assumption, by first | rfl | assumption | exact encV_len _ | exact Enc.len _ | exact len_ub (by assumption)⟩) rfl ?_
              first
                | exact ⟨K2, v2, F1, rfl, hk2, hr2, hw1, hs.to⟩
                | (rw [hop]; exact ⟨K, v, F, rfl, KLe.refl K, hr, hw, hs.to⟩)
            · refine C.seq ?_
              refine C.region ?_
              refine R.ev rfl (E.eql rfl rfl) ?_
              refine R.ev rfl (E.assign rfl) ?_
              refine R.done ?_
              refine X.keep [(0, _), (4, _), (5, _), (6, _), (9, _), (10, _), (25, _), (111, _)] ⟨rfl, rfl, rfl, rfl, rfl, rfl, rfl, rfl, trivial⟩ ?_
              refine X.next ?_
              refine C.cdec rfl (fun h111 => ?_) (fun h111 => ?_)
              · have hop : opS s o = scanS s o.now o.ids := by unfold opS; rw [if_neg h26, if_neg h38, if_neg h50, if_neg h66, if_neg h82, if_neg h98, if_pos h111]
                have hsc := (scan_vw hI o.ids o.now).1
                refine C.seq ?_
                refine C.drawn (SatS hs) ([2, 6], [0, 1, 5, 8, 9, 10, 11, 12]) (by kernel_rfl) ?_
                have hs := hs.drew
                refine D.evP 0 rfl (by kernel_rfl) rfl (fun _ => hs.to) (fun _ => E.move rfl) ?_
                first | refine D.evP 1 rfl (by kernel_rfl) rfl (fun _ => hs.to) (fun _ => E.fieldAddr0 35 rfl Try.underlying33 rfl Try.sz31 rfl) ?_ | refine D.evP 1 rfl (by kernel_rfl) rfl (fun _ => hs.to) (fun _ => E.fieldAddrN 35 rfl Try.underlying33 rfl Try.sz31 rfl) ?_
                first | refine D.evP 5 rfl (by kernel_rfl) rfl (fun _ => hs.to) (fun _ => E.fieldAddr0 33 rfl Try.underlying33 rfl Try.sz3 rfl) ?_ | refine D.evP 5 rfl (by kernel_rfl) rfl (fun _ => hs.to) (fun _ => E.fieldAddrN 33 rfl Try.underlying33 rfl Try.sz3 rfl) ?_
                refine D.ev 2 rfl (by kernel_rfl) rfl hs.to (fun _ hS => E.load1 rfl Try.underlying31 rfl (by first | exact hS.ldc | exact hS.ld rfl | exact hS.ld (by assumption) | exact by assumption | exact At.cellC (by assumption) | exact At.cellC ((by assumption : ∀ w', Sat _ w' _ → At w' _ _ _) _ hS) | exact (by assumption : ∀ w', Sat _ w' _ → World.cell? w' _ = some _) _ hS)) ?_
                refine D.ev 6 rfl (by kernel_rfl) rfl hs.to (fun _ hS => E.load1 rfl Try.underlying3 rfl (by first | exact hS.ldc | exact hS.ld rfl | exact hS.ld (by assumption) | exact by assumption | exact At.cellC (by assumption) | exact At.cellC ((by assumption : ∀ w', Sat _ w' _ → At w' _ _ _) _ hS) | exact (by assumption : ∀ w', Sat _ w' _ → World.cell? w' _ = some _) _ hS)) ?_
                refine D.act 3 rfl (by kernel_rfl) ?_
                refine R.call ⟨_, _, Try.func41, rfl, by kernel_rfl⟩ rfl rfl (own_any (L := o.ids) hs (by omega)) ?_
                rintro v19 w19 ⟨F19, r19, hs⟩
                obtain ⟨ad19, cap19, rfl, _⟩ := r19.val
                refine D.back hs.to ?_
                refine D.act 4 rfl (by kernel_rfl) ?_
                refine R.call ⟨_, _, Try.func26, rfl, by kernel_rfl⟩ rfl rfl (values_any _ _ _ hs) ?_
                rintro _ w20 ⟨b20, rfl, hs⟩
                refine D.back hs.to ?_
                refine D.act 7 rfl (by kernel_rfl) ?_
                refine R.call ⟨_, _, Try.func25, rfl, by kernel_rfl⟩ rfl rfl (scan_any (L := o.ids) (hs.front (F := F)) (by omega) hI.cp (by omega)) ?_
                rintro _ w5 ⟨rfl, F1, hw1, hs1⟩
                have hs := hs.back (F := F) hs1
                refine D.backT (by kernel_rfl) ?_
                refine D.evP 8 rfl (by kernel_rfl) rfl (np (by kernel_rfl)) (fun _ => E.move rfl) ?_
                refine D.evP 9 rfl (by kernel_rfl) rfl (np (by kernel_rfl)) (fun _ => E.extract rfl rfl) ?_
                refine D.evP 10 rfl (by kernel_rfl) rfl (np (by kernel_rfl)) (fun _ => E.extract rfl rfl) ?_
                refine D.evP 11 rfl (by kernel_rfl) rfl (np (by kernel_rfl)) (fun _ => E.assign rfl) ?_
                refine D.evP 12 rfl (by kernel_rfl) rfl (np (by kernel_rfl)) (fun _ => E.assign rfl) ?_
                refine D.done rfl (by kernel_rfl) ?_
                refine X.keep [(4, _), (5, _), (6, _), (17, _), (18, _)] ⟨rfl, rfl, rfl, rfl, rfl, trivial⟩ ?_
                refine X.next ?_
                refine C.seq ?_
                refine C.region ?_
                refine R.ev rfl (E.loadRowC rfl Try.underlying52 rfl Try.sz52 (by first | exact ⟨hs.ldA, by first | rfl | assumption | exact encV_len _ | exact Enc.len _ | exact len_ub (by assumption)⟩ | exact ⟨hs.ldP rfl, by first | rfl | assumption | exact encV_len _ | exact Enc.len _ | exact len_ub (by assumption)⟩ | exact ⟨hs.ldM rfl rfl, by first | rfl | assumption | exact encV_len _ | exact Enc.len _ | exact len_ub (by assumption)⟩ | exact ⟨hs.ldM (by assumption) (by first | rfl | assumption), by first | rfl | assumption | exact encV_len _ | exact Enc.len _ | exact len_ub (by assumption)⟩ | exact ⟨by assumption, by first | rfl | assumption | exact encV_len _ | exact Enc.len _ | exact len_ub (by assumption)⟩ | exact hs.ldp | exact At.partC (by assumption))) ?_
                first | refine R.ev rfl (E.fieldAddr0 35 rfl Try.underlying33 rfl Try.sz31 rfl) ?_ | refine R.ev rfl (E.fieldAddrN 35 rfl Try.underlying33 rfl Try.sz31 rfl) ?_
                refine R.ev rfl (E.load1 rfl Try.underlying31 rfl (by first | exact hs.ldc | exact hs.ld rfl | exact hs.ld (by assumption) | exact by assumption | exact At.cellC (by assumption))) ?_
                first | refine R.ev rfl (E.fieldAddr0 33 rfl Try.underlying33 rfl Try.sz3 rfl) ?_ | refine R.ev rfl (E.fieldAddrN 33 rfl Try.underlying33 rfl Try.sz3 rfl) ?_
                refine R.ev rfl (E.load1 rfl Try.underlying3 rfl (by first | exact hs.ldc | exact hs.ld rfl | exact hs.ld (by assumption) | exact by assumption | exact At.cellC (by assumption))) ?_
                refine R.call ⟨_, _, Try.func69, rfl, by kernel_rfl⟩ rfl rfl (rscan_any (s := vw s) (v := v) (vi := o.sl) (ids := o.ids) o.now hs (by omega)) ?_
                rintro _ w6 ⟨K2, v2, rfl, hk2, hr2, hs⟩
                have o2 : OneC v2 := ⟨KRow.oneC' hr2⟩
                rw [hsc] at hr2 ⊢
                simp only at hr2 ⊢
                rw [← hop] at hr2 hw1 ⊢
                refine R.ev rfl (E.move rfl) ?_
                refine R.ev rfl (E.extract rfl rfl) ?_
                refine R.ev rfl (E.extract rfl rfl) ?_
                refine R.ev rfl (E.extract rfl rfl) ?_
                refine R.sallocA hs Try.zr52 rfl ?_
                intro b19 w19 hs
                first | refine R.cstoreAll hs rfl rfl Try.sz52 (by first | rfl | assumption | exact encV_len _ | exact Enc.len _ | exact len_ub (by assumption) | simp [*]) (by first | rfl | assumption | exact encV_len _ | exact Enc.len _ | exact len_ub (by assumption) | simp [*]) (by first | assumption | exact OneL.all | exact Enc.one _ | exact ub_all _ | (repeat' (first | refine List.forall_mem_cons.2 ⟨?_, ?_⟩ | exact List.forall_mem_nil _ | rfl | exact OneC.one | exact KRow.oneC' (by assumption)))) ?_ | refine R.cstore hs rfl rfl Try.sz52 (by first | rfl | assumption | exact encV_len _ | exact Enc.len _ | exact len_ub (by assumption) | simp [*]) (by simp [*]) (by first | assumption | exact OneL.all | exact Enc.one _ | exact ub_all _ | (repeat' (first | refine List.forall_mem_cons.2 ⟨?_, ?_⟩ | exact List.forall_mem_nil _ | rfl | exact OneC.one | exact KRow.oneC' (by assumption)))) ?_
                intro w26_11 hs
                try simp only [List.set_cons_zero, List.set_cons_succ] at hs
                refine R.ev rfl (E.assign rfl) ?_
                refine R.ev rfl (E.assign rfl) ?_
                refine R.done ?_
                refine X.keep [(6, _), (17, _), (18, _), (19, _), (20, _), (21, _)] ⟨rfl, rfl, rfl, rfl, rfl, rfl, trivial⟩ ?_
                refine X.next ?_
                refine C.seq ?_
                refine C.region ?_
                refine R.ev rfl (E.loadRowC rfl Try.underlying52 rfl Try.sz52 (by first | exact ⟨hs.ldA, by first | rfl | assumption | exact encV_len _ | exact Enc.len _ | exact len_ub (by assumption)⟩ | exact ⟨hs.ldP rfl, by first | rfl | assumption | exact encV_len _ | exact Enc.len _ | exact len_ub (by assumption)⟩ | exact ⟨hs.ldM rfl rfl, by first | rfl | assumption | exact encV_len _ | exact Enc.len _ | exact len_ub (by assumption)⟩ | exact ⟨hs.ldM (by assumption) (by first | rfl | assumption), by first | rfl | assumption | exact encV_len _ | exact Enc.len _ | exact len_ub (by assumption)⟩ | exact ⟨by assumption, by first | rfl | assumption | exact encV_len _ | exact Enc.len _ | exact len_ub (by assumption)⟩ | exact hs.ldp | exact At.partC (by assumption))) ?_
                refine R.ev rfl (E.move rfl) ?_
                refine R.ev rfl (E.move rfl) ?_
                refine R.ev rfl ((E.eql rfl rfl).isT rfl) ?_
                refine R.ev rfl (E.move rfl) ?_
                refine R.gyes rfl rfl ?_
                refine R.ev rfl (E.move rfl) ?_
                refine R.gyes rfl rfl ?_
                refine R.ev rfl (E.move rfl) ?_
                refine R.gyes rfl rfl ?_
                refine R.ev rfl ((E.eqlB rfl rfl Try.underlying4).isT rfl) ?_
                refine R.ev rfl (E.pickT rfl rfl) ?_
                first | refine R.cstoreAll hs rfl rfl Try.sz52 (by first | rfl | assumption | exact encV_len _ | exact Enc.len _ | exact len_ub (by assumption) | simp [*]) (by first | rfl | assumption | exact encV_len _ | exact Enc.len _ | exact len_ub (by assumption) | simp [*]) (by first | assumption | exact OneL.all | exact Enc.one _ | exact ub_all _ | (repeat' (first | refine List.forall_mem_cons.2 ⟨?_, ?_⟩ | exact List.forall_mem_nil _ | rfl | exact OneC.one | exact KRow.oneC' (by assumption)))) ?_ | refine R.cstore hs rfl rfl Try.sz52 (by first | rfl | assumption | exact encV_len _ | exact Enc.len _ | exact len_ub (by assumption) | simp [*]) (by simp [*]) (by first | assumption | exact OneL.all | exact Enc.one _ | exact ub_all _ | (repeat' (first | refine List.forall_mem_cons.2 ⟨?_, ?_⟩ | exact List.forall_mem_nil _ | rfl | exact OneC.one | exact KRow.oneC' (by assumption)))) ?_
                intro w27_9 hs
                try simp only [List.set_cons_zero, List.set_cons_succ] at hs
                refine R.ev rfl (E.assign rfl) ?_
                refine R.done ?_
                refine X.keep [(6, _), (7, _)] ⟨rfl, rfl, trivial⟩ ?_
                refine X.next ?_
                refine C.ret ?_
                refine X.blockRet ?_
                refine X.thenRet ?_
                refine X.resCT rfl rfl Try.underlying52 rfl Try.sz52 (by first | exact ⟨hs.ldA, by first | rfl | assumption | exact encV_len _ | exact Enc.len _ | exact len_ub (by assumption)⟩ | exact ⟨hs.ldP rfl, by first | rfl | assumption | exact encV_len _ | exact Enc.len _ | exact len_ub (by assumption)⟩ | exact ⟨by assumption, by first | rfl | assumption | exact encV_len _ | exact Enc.len _ | exact len_ub (by assumption)⟩) rfl ?_
                first
                  | exact ⟨K2, v2, F1, rfl, hk2, hr2, hw1, hs.to⟩
                  | (rw [hop]; exact ⟨K, v, F, rfl, KLe.refl K, hr, hw, hs.to⟩)
              · have hop : opS s o = s := by unfold opS; rw [if_neg h26, if_neg h38, if_neg h50, if_neg h66, if_neg h82, if_neg h98, if_neg h111]
                refine C.seq ?_
                refine C.region ?_
                refine R.ev rfl (E.eql rfl rfl) ?_
                refine R.ev rfl (E.assign rfl) ?_
                refine R.done ?_
                refine X.keep [(0, _), (4, _), (5, _), (6, _), (9, _), (10, _), (143, _)] ⟨rfl, rfl, rfl, rfl, rfl, rfl, rfl, trivial⟩ ?_
                refine X.next ?_
                refine C.cdec rfl (fun h143 => ?_) (fun h143 => ?_)
                · refine C.seq ?_
                  refine C.drawn (SatS hs) ([0, 3, 5, 7, 9, 11], [1, 2, 4, 8, 10, 15]) (by kernel_rfl) ?_
                  have hs := hs.drew
                  refine D.evP 1 rfl (by kernel_rfl) rfl (fun _ => hs.to) (fun _ => E.move rfl) ?_
                  first | refine D.evP 2 rfl (by kernel_rfl) rfl (fun _ => hs.to) (fun _ => E.fieldAddr0 33 rfl Try.underlying33 rfl Try.sz3 rfl) ?_ | refine D.evP 2 rfl (by kernel_rfl) rfl (fun _ => hs.to) (fun _ => E.fieldAddrN 33 rfl Try.underlying33 rfl Try.sz3 rfl) ?_
                  first | refine D.evP 4 rfl (by kernel_rfl) rfl (fun _ => hs.to) (fun _ => E.fieldAddr0 34 rfl Try.underlying33 rfl Try.sz3 rfl) ?_ | refine D.evP 4 rfl (by kernel_rfl) rfl (fun _ => hs.to) (fun _ => E.fieldAddrN 34 rfl Try.underlying33 rfl Try.sz3 rfl) ?_
                  first | refine D.evP 8 rfl (by kernel_rfl) rfl (fun _ => hs.to) (fun _ => E.fieldAddr0 33 rfl Try.underlying33 rfl Try.sz3 rfl) ?_ | refine D.evP 8 rfl (by kernel_rfl) rfl (fun _ => hs.to) (fun _ => E.fieldAddrN 33 rfl Try.underlying33 rfl Try.sz3 rfl) ?_
                  first | refine D.evP 10 rfl (by kernel_rfl) rfl (fun _ => hs.to) (fun _ => E.fieldAddr0 34 rfl Try.underlying33 rfl Try.sz3 rfl) ?_ | refine D.evP 10 rfl (by kernel_rfl) rfl (fun _ => hs.to) (fun _ => E.fieldAddrN 34 rfl Try.underlying33 rfl Try.sz3 rfl) ?_
                  refine D.ev 0 rfl (by kernel_rfl) rfl hs.to (fun _ hS => E.loadRowC rfl Try.underlying52 rfl Try.sz52 (by first | exact ⟨hS.ldA, by first | rfl | assumption | exact encV_len _ | exact Enc.len _ | exact len_ub (by assumption)⟩ | exact ⟨hS.ldP rfl, by first | rfl | assumption | exact encV_len _ | exact Enc.len _ | exact len_ub (by assumption)⟩ | exact ⟨hS.ldM rfl rfl, by first | rfl | assumption | exact encV_len _ | exact Enc.len _ | exact len_ub (by assumption)⟩ | exact ⟨hS.ldM (by assumption) (by first | rfl | assumption), by first | rfl | assumption | exact encV_len _ | exact Enc.len _ | exact len_ub (by assumption)⟩ | exact ⟨by assumption, by first | rfl | assumption | exact encV_len _ | exact Enc.len _ | exact len_ub (by assumption)⟩ | exact ⟨(by assumption : ∀ w', Sat _ w' _ → At w' _ _ _) _ hS, by first | rfl | assumption | exact encV_len _ | exact Enc.len _ | exact len_ub (by assumption)⟩ | exact hS.ldp | exact At.partC (by assumption) | exact At.partC ((by assumption : ∀ w', Sat _ w' _ → At w' _ _ _) _ hS))) ?_
                  refine D.ev 3 rfl (by kernel_rfl) rfl hs.to (fun _ hS => E.load1 rfl Try.underlying3 rfl (by first | exact hS.ldc | exact hS.ld rfl | exact hS.ld (by assumption) | exact by assumption | exact At.cellC (by assumption) | exact At.cellC ((by assumption : ∀ w', Sat _ w' _ → At w' _ _ _) _ hS) | exact (by assumption : ∀ w', Sat _ w' _ → World.cell? w' _ = some _) _ hS)) ?_
                  refine D.ev 5 rfl (by kernel_rfl) rfl hs.to (fun _ hS => E.load1 rfl Try.underlying3 rfl (by first | exact hS.ldc | exact hS.ld rfl | exact hS.ld (by assumption) | exact by assumption | exact At.cellC (by assumption) | exact At.cellC ((by assumption : ∀ w', Sat _ w' _ → At w' _ _ _) _ hS) | exact (by assumption : ∀ w', Sat _ w' _ → World.cell? w' _ = some _) _ hS)) ?_
                  refine D.ev 7 rfl (by kernel_rfl) rfl hs.to (fun _ hS => E.loadRowC rfl Try.underlying52 rfl Try.sz52 (by first | exact ⟨hS.ldA, by first | rfl | assumption | exact encV_len _ | exact Enc.len _ | exact len_ub (by assumption)⟩ | exact ⟨hS.ldP rfl, by first | rfl | assumption | exact encV_len _ | exact Enc.len _ | exact len_ub (by assumption)⟩ | exact ⟨hS.ldM rfl rfl, by first | rfl | assumption | exact encV_len _ | exact Enc.len _ | exact len_ub (by assumption)⟩ | exact ⟨hS.ldM (by assumption) (by first | rfl | assumption), by first | rfl | assumption | exact encV_len _ | exact Enc.len _ | exact len_ub (by assumption)⟩ | exact ⟨by assumption, by first | rfl | assumption | exact encV_len _ | exact Enc.len _ | exact len_ub (by assumption)⟩ | exact ⟨(by assumption : ∀ w', Sat _ w' _ → At w' _ _ _) _ hS, by first | rfl | assumption | exact encV_len _ | exact Enc.len _ | exact len_ub (by assumption)⟩ | exact hS.ldp | exact At.partC (by assumption) | exact At.partC ((by assumption : ∀ w', Sat _ w' _ → At w' _ _ _) _ hS))) ?_
                  refine D.ev 9 rfl (by kernel_rfl) rfl hs.to (fun _ hS => E.load1 rfl Try.underlying3 rfl (by first | exact hS.ldc | exact hS.ld rfl | exact hS.ld (by assumption) | exact by assumption | exact At.cellC (by assumption) | exact At.cellC ((by assumption : ∀ w', Sat _ w' _ → At w' _ _ _) _ hS) | exact (by assumption : ∀ w', Sat _ w' _ → World.cell? w' _ = some _) _ hS)) ?_
                  refine D.ev 11 rfl (by kernel_rfl) rfl hs.to (fun _ hS => E.load1 rfl Try.underlying3 rfl (by first | exact hS.ldc | exact hS.ld rfl | exact hS.ld (by assumption) | exact by assumption | exact At.cellC (by assumption) | exact At.cellC ((by assumption : ∀ w', Sat _ w' _ → At w' _ _ _) _ hS) | exact (by assumption : ∀ w', Sat _ w' _ → World.cell? w' _ = some _) _ hS)) ?_
                  refine D.act 6 rfl (by kernel_rfl) ?_
                  refine R.call ⟨_, _, Try.func24, rfl, by kernel_rfl⟩ rfl rfl (next_any o.now o.most hs (by omega)) ?_
                  rintro v151 w151 ⟨F151, r151, hs⟩
                  refine D.back hs.to ?_
                  refine D.act 12 rfl (by kernel_rfl) ?_
                  refine R.call ⟨_, _, Try.func70, rfl, by kernel_rfl⟩ rfl rfl (rnext_any (s := vw s) (v := v) o.now o.most hs (by omega)) ?_
                  rintro v157 w157 ⟨F157, r157, hs⟩
                  rw [next_vw] at r157
                  refine D.back hs.to ?_
                  refine D.act 13 rfl (by kernel_rfl) ?_
                  refine R.call ⟨_, _, Try.func54, rfl, by kernel_rfl⟩ rfl rfl (same_any (L := nxtL s o.now o.most s.L) (M := nxtL s o.now o.most s.L) hs (by have := nxtL_le (s := s) o.now o.most s.L; omega)) ?_
                  rintro _ w158 ⟨h158, hs⟩
                  rw [decide_eq_true rfl] at h158
                  subst h158
                  refine D.back hs.to ?_
                  refine D.act 14 rfl (by kernel_rfl) ?_
                  first | refine R.cstoreAll hs rfl rfl Try.sz52 (by first | rfl | assumption | exact encV_len _ | exact Enc.len _ | exact len_ub (by assumption) | simp [*]) (by first | rfl | assumption | exact encV_len _ | exact Enc.len _ | exact len_ub (by assumption) | simp [*]) (by first | assumption | exact OneL.all | exact Enc.one _ | exact ub_all _ | (repeat' (first | refine List.forall_mem_cons.2 ⟨?_, ?_⟩ | exact List.forall_mem_nil _ | rfl | exact OneC.one | exact KRow.oneC' (by assumption)))) ?_ | refine R.cstore hs rfl rfl Try.sz52 (by first | rfl | assumption | exact encV_len _ | exact Enc.len _ | exact len_ub (by assumption) | simp [*]) (by simp [*]) (by first | assumption | exact OneL.all | exact Enc.one _ | exact ub_all _ | (repeat' (first | refine List.forall_mem_cons.2 ⟨?_, ?_⟩ | exact List.forall_mem_nil _ | rfl | exact OneC.one | exact KRow.oneC' (by assumption)))) ?_
                  intro w29_14 hs
                  try simp only [List.set_cons_zero, List.set_cons_succ] at hs
                  refine D.backT (by kernel_rfl) ?_
                  refine D.evP 15 rfl (by kernel_rfl) rfl (np (by kernel_rfl)) (fun _ => E.assign rfl) ?_
                  refine D.done rfl (by kernel_rfl) ?_
                  refine X.keep [(6, _), (7, _)] ⟨rfl, rfl, trivial⟩ ?_
                  refine X.next ?_
                  refine C.ret ?_
                  refine X.blockRet ?_
                  refine X.thenRet ?_
                  refine X.resCT rfl rfl Try.underlying52 rfl Try.sz52 (by first | exact ⟨hs.ldA, by first | rfl | assumption | exact encV_len _ | exact Enc.len _ | exact len_ub (by assumption)⟩ | exact ⟨hs.ldP rfl, by first | rfl | assumption | exact encV_len _ | exact Enc.len _ | exact len_ub (by assumption)⟩ | exact ⟨by assumption, by first | rfl | assumption | exact encV_len _ | exact Enc.len _ | exact len_ub (by assumption)⟩) rfl ?_
                  first
                    | exact ⟨K2, v2, F1, rfl, hk2, hr2, hw1, hs.to⟩
                    | (rw [hop]; exact ⟨K, v, F, rfl, KLe.refl K, hr, hw, hs.to⟩)
                · refine C.skip ?_
                  refine X.blockNormal ?_
                  refine X.next ?_
                  refine C.seq ?_
                  refine C.region ?_
                  refine R.ev rfl (E.loadRowC rfl Try.underlying52 rfl Try.sz52 (by first | exact ⟨hs.ldA, by first | rfl | assumption | exact encV_len _ | exact Enc.len _ | exact len_ub (by assumption)⟩ | exact ⟨hs.ldP rfl, by first | rfl | assumption | exact encV_len _ | exact Enc.len _ | exact len_ub (by assumption)⟩ | exact ⟨hs.ldM rfl rfl, by first | rfl | assumption | exact encV_len _ | exact Enc.len _ | exact len_ub (by assumption)⟩ | exact ⟨hs.ldM (by assumption) (by first | rfl | assumption), by first | rfl | assumption | exact encV_len _ | exact Enc.len _ | exact len_ub (by assumption)⟩ | exact ⟨by assumption, by first | rfl | assumption | exact encV_len _ | exact Enc.len _ | exact len_ub (by assumption)⟩ | exact hs.ldp | exact At.partC (by assumption))) ?_
                  refine R.ev rfl (E.move rfl) ?_
                  refine R.ev rfl (E.move rfl) ?_
                  refine R.ev rfl ((E.eql rfl rfl).isT rfl) ?_
                  first | refine R.cstoreAll hs rfl rfl Try.sz52 (by first | rfl | assumption | exact encV_len _ | exact Enc.len _ | exact len_ub (by assumption) | simp [*]) (by first | rfl | assumption | exact encV_len _ | exact Enc.len _ | exact len_ub (by assumption) | simp [*]) (by first | assumption | exact OneL.all | exact Enc.one _ | exact ub_all _ | (repeat' (first | refine List.forall_mem_cons.2 ⟨?_, ?_⟩ | exact List.forall_mem_nil _ | rfl | exact OneC.one | exact KRow.oneC' (by assumption)))) ?_ | refine R.cstore hs rfl rfl Try.sz52 (by first | rfl | assumption | exact encV_len _ | exact Enc.len _ | exact len_ub (by assumption) | simp [*]) (by simp [*]) (by first | assumption | exact OneL.all | exact Enc.one _ | exact ub_all _ | (repeat' (first | refine List.forall_mem_cons.2 ⟨?_, ?_⟩ | exact List.forall_mem_nil _ | rfl | exact OneC.one | exact KRow.oneC' (by assumption)))) ?_
                  intro w30_4 hs
                  try simp only [List.set_cons_zero, List.set_cons_succ] at hs
                  refine R.ev rfl (E.assign rfl) ?_
                  refine R.done ?_
                  refine X.keep [(6, _), (7, _)] ⟨rfl, rfl, trivial⟩ ?_
                  refine X.next ?_
                  refine C.ret ?_
                  refine X.resCT rfl rfl Try.underlying52 rfl Try.sz52 (by first | exact ⟨hs.ldA, by first | rfl | assumption | exact encV_len _ | exact Enc.len _ | exact len_ub (by assumption)⟩ | exact ⟨hs.ldP rfl, by first | rfl | assumption | exact encV_len _ | exact Enc.len _ | exact len_ub (by assumption)⟩ | exact ⟨by assumption, by first | rfl | assumption | exact encV_len _ | exact Enc.len _ | exact len_ub (by assumption)⟩) rfl ?_
                  first
                    | exact ⟨K2, v2, F1, rfl, hk2, hr2, hw1, hs.to⟩
                    | (rw [hop]; exact ⟨K, v, F, rfl, KLe.refl K, hr, hw, hs.to⟩)
end Go.Proofs.Ytoidpcmcbmioiaa
